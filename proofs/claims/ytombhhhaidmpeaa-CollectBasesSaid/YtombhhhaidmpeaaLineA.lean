/- Recovery lines: line.Allowed, line.Failure. Conditions: the pattern is good and lies in memory. -/
import Derived.Test.YtombhhhaidmpeaaLineG
import Derived.Test.YtombhhhaidmpeaaNeedP
import Derived.Test.YtombhhhaidmpeaaMark
import Derived.Test.YtombhhhaidmpeaaMkZ
namespace Go.Proofs.Ytombhhhaidmpeaa
open Go.RowKit
set_option linter.unusedVariables false
set_option linter.unusedSimpArgs false
set_option linter.unusedSectionVars false

theorem RowOk.last {l : List Int} {m : Int} (h : RowOk l m) : nth l (l.length - 1) = m ↔ m ∈ l := by
  obtain ⟨r, hr⟩ := h.head
  have hl : 0 < l.length := by rw [hr]; simp
  have hlt : l.length - 1 < l.length := by omega
  rw [nth_eq hlt]
  constructor
  · intro e; rw [← e]; exact List.getElem_mem hlt
  · intro hm
    obtain ⟨i, hi, e⟩ := List.getElem_of_mem hm
    have h1 := h.le _ (List.getElem_mem hlt)
    rcases Nat.lt_or_ge i (l.length - 1) with h2 | h2
    · have h3 := List.pairwise_iff_getElem.1 h.asc i (l.length - 1) hi hlt h2
      omega
    · have h3 : i = l.length - 1 := by omega
      subst h3; exact e
/-- lists of lists are returned, new or as old data -/
def RetRR (S : Nat → Prop) (w0 : World) (ls : List (List Int)) (e : Ending) (w' : World) : Prop := ∃ A c, e = .returned (.slice A ls.length c) ∧ ls.length ≤ c ∧ c ≤ 9223372036854775807 ∧ RR (Orn S w0) w' A ls ∧ Ext w0 w'
/-- a list is returned, new or as old data -/
def RetI (S : Nat → Prop) (w0 : World) (n : Nat) (ys : List Int) (e : Ending) (w' : World) : Prop := ∃ A c, e = .returned (.slice A n c) ∧ n ≤ c ∧ c ≤ 9223372036854775807 ∧ RI (Orn S w0) w' A ys ∧ Ext w0 w'
theorem St.rowSet {w0 w u : World} {M T : Nat → Prop} {cs : List (Chunk w0 M)} {f : Chunk w0 M → List (Chunk w0 M)} {e : TypeId} {L : Option Addr} {n c k : Nat} {ys : List Int} {vs : List Value} {ls : List (List Int)} (h : St w0 M (row (.slice L n c) e 1 n (ints ys) :: cs) w) [hp : PickF cs T u f] (hr : Reps (repRow T u) 1 vs ls) (hn : ys.length = n) (hc : capOk n c) (hk : k < ls.length) :
    ∃ T' : Nat → Prop, St w0 M (f (froz T' w)) w ∧ Reps (repRow T' w) 1 (vs.set k (.slice L n c)) (ls.set k ys) := by
  have hi : Into T T u w := h.frozInto (hp := (inferInstance : PickF (row (.slice L n c) e 1 n (ints ys) :: cs) T u (fun d => row (.slice L n c) e 1 n (ints ys) :: f d)))
  have ho : RI (fun b => (Value.slice L n c).ownBlock = some b) w L ys := h.rvOwn (e := e) (n := n) (f := fun d => d :: cs)
  refine ⟨_, h.freeze, hr.setRow (hi.widen (fun k hk => .inr hk)) hk hn hc (ho.sub (fun k hk => .inl hk))⟩
/-- the rows of the first processes -/
def alTo (p : Pat) (F : List Nat) (q : Nat) : List (List Int) := (alF p F).take q ++ List.replicate (p.len.length - q) []
theorem alTo_len {p : Pat} {F : List Nat} {q : Nat} (hq : q ≤ p.len.length) : (alTo p F q).length = p.len.length := by
  simp only [alTo, List.length_append, List.length_take, alF_len, List.length_replicate]; omega
theorem alTo_succ {p : Pat} {F : List Nat} {q : Nat} (hq : q < p.len.length) : (alTo p F q).set q (alRow p F q) = alTo p F (q + 1) := by
  have hl : ((alF p F).take q).length = q := by rw [List.length_take, alF_len]; omega
  rw [alTo, alTo, List.set_append_right _ _ (by rw [hl]; exact Nat.le_refl _), hl, Nat.sub_self, show p.len.length - q = (p.len.length - (q + 1)) + 1 by omega, List.replicate_succ, List.set_cons_zero, List.take_succ_eq_append_getElem (by rw [alF_len]; exact hq), List.append_assoc]
  congr 1
  simp [alF]
theorem alTo_all (p : Pat) (F : List Nat) : alTo p F p.len.length = alF p F := by
  rw [alTo, Nat.sub_self, List.take_of_length_le (by rw [alF_len]; exact Nat.le_refl _)]; simp
theorem mem_nats {F : List Nat} {q : Nat} : (q : Int) ∈ F.map (fun f : Nat => (f : Int)) ↔ q ∈ F := by
  rw [List.mem_map]
  constructor
  · rintro ⟨f, hf, e⟩
    have : f = q := by omega
    rw [← this]; exact hf
  · intro h; exact ⟨q, h, rfl⟩
theorem repNil (S : Nat → Prop) (w : World) : ∀ n : Nat, Reps (repRow S w) 1 (List.replicate n (.slice none 0 0)) (List.replicate n [])
  | 0 => rfl
  | n + 1 => ⟨[.slice none 0 0], List.replicate n (.slice none 0 0), rfl, rfl, ⟨none, 0, rfl, Nat.le_refl _, by omega, fun j u h => by simp [ints] at h⟩, repNil S w n⟩
theorem RetRow.un {w w' : World} {e : TypeId} {n : Nat} {ys : List Int} {en : Ending} (h : RetRow w e 1 n (ints ys) en w') : ∃ L c, en = .returned (.slice L n c) ∧ w'.ownsRow w.heap.size e 1 (.slice L n c) n (ints ys) ∧ Ext w w' ∧ capOk n c := by
  obtain ⟨L, c, h1, h2, h3⟩ := h
  refine ⟨L, c, h1, h2, h3, ?_⟩
  obtain ⟨A', c', hv, h4, h5⟩ := own_form h2
  injection hv with _ _ h6
  subst h6; exact ⟨h4, h5⟩
set_option maxRecDepth 100000 in
set_option maxHeartbeats 6400000 in
theorem allowed_any {S T : Nat → Prop} (v : PV) (X : Option Addr) (c n : Nat) (p : Pat) (F : List Nat) (w0 : World) (hp : PatAt S w0 v p) (hg : Good p) (hx : RI T w0 X (F.map (fun f : Nat => (f : Int)))) (hF : F.length = n) (hFl : n ≤ 1000) :
    Calls Try.prog 47 #[v.val p, .slice X n c] w0 (RetRR S w0 (alF p F)) := by
  have hS := St.start w0 NoM
  have hn5 := hg.n5
  have hn2 := hg.n2
  have HCKL := Lib.hid hg.ckl
  have hck1 : p.ck.length ≤ p.len.length := by have := HCKL.out; omega
  have hck2 : p.len.length ≤ p.ck.length := by have := HCKL.out; omega
  have HP := Lib.hid (And.intro hp hg)
  have hck := hp.ck
  have hln := hp.len
  have HX := Lib.hid (show ∀ w q, Ext w0 w → Calls Try.prog 61 #[.slice X n c, .int .i64 q] w (fun e w' => e = .returned (.bool (decide (q ∈ F.map (fun f : Nat => (f : Int))))) ∧ Ext w w') from fun w q hxt => by
    have := contains_any X c (F.map (fun f : Nat => (f : Int))) q w (hx.ext hxt) (by simp; omega)
    rw [List.length_map, hF] at this
    exact this)
  clear hp hg hx
  obtain ⟨A1, c1, A2, c2, A3, c3⟩ := v
  simp only [PV.val] at *
  go_enter Try.func47, Try.ntmps47
  go_wp2_with (first | (go_at_call 36; refine (check_good ⟨A1, c1, A2, c2, A3, c3⟩ p _ (HP.out.1.ext hS.toExt) HP.out.2).mono ?_; rintro e w ⟨rfl, hx1⟩; replace hS := hS.ext hx1) | (refine oM ?_; refine st_mkZ (n := p.ck.length) hS rfl rfl rfl rfl rfl (by omega) ?_; clear hS; intro g2 w hS) | (refine oL ?_; (first | refine sL1 hS rfl rfl rfl ?_ | refine sL2 hS rfl rfl rfl ?_ | refine sL3 hS rfl rfl ?_ | refine sL4 hS rfl rfl ?_ | refine sL5 hS rfl rfl ?_ | refine sL6 hS rfl rfl ?_ | refine sL7 hS rfl rfl ?_)) | (refine oS ?_; ((first | refine sS1 hS rfl rfl rfl ?_ | refine sS2 hS rfl rfl rfl ?_ | refine sS3 hS rfl rfl rfl ?_ | refine sS4 hS rfl rfl rfl ?_ | refine sS5 hS rfl rfl rfl ?_); clear hS; intro w hS)) | (refine oP ?_; ((first | refine sP1 hS rfl rfl rfl ?_ | refine sP2 hS rfl rfl rfl ?_ | refine sP3 hS rfl rfl rfl ?_); clear hS; first | ((fail_if_success guard_hyp L1); intro L1 cl1 w hL1 hM1 hS) | ((fail_if_success guard_hyp L2); intro L2 cl2 w hL2 hM2 hS) | fail)) | ((first | (refine oB ?_; first | refine sB1 hS rfl rfl ?_ | refine sB2 hS rfl rfl ?_) | (refine oC ?_; first | refine sC0 hS rfl ?_ | refine sC1 hS rfl rfl ?_ | refine sC2 hS rfl rfl ?_ | refine sC3 hS rfl rfl rfl ?_ | refine sC4 hS rfl rfl rfl ?_) | refine sM1 hS rfl rfl rfl ?_); clear hS; first | ((fail_if_success guard_hyp g1); intro g1 w hS) | ((fail_if_success guard_hyp g2); intro g2 w hS) | ((fail_if_success guard_hyp g3); intro g3 w hS) | ((fail_if_success guard_hyp g4); intro g4 w hS) | fail) | fail)
  replace hS := hS.frozNil
  go_loopw [19] (fun s19 wr => ∃ (q : Nat) (vs : List Value) (T1 : Nat → Prop) (u : World), q ≤ p.len.length ∧ s19 = .int .i64 q ∧ Hid (Reps (repRow T1 u) 1 vs (alTo p F q)) ∧ St w0 NoM [froz T1 u, row (.slice (some ⟨g2, 0, none⟩) p.ck.length p.ck.length) 24 1 p.ck.length vs, blk g1 [.slice A1 p.len.length c1, .slice A2 p.ck.length c2, .slice A3 p.arcs.length c3] 28] wr) (fun s19 _ => p.len.length - (intOf s19).toNat)
  case atStart => exact ⟨0, _, _, _, by omega, rfl, Lib.hid (by rw [alTo, List.take_zero, List.nil_append, Nat.sub_zero, ← HCKL.out]; exact repNil _ _ _), hS⟩
  case round =>
    clear hS
    obtain ⟨q, vs, T1, u1, hq, rfl, HV, hS⟩ := hrel
    by_cases hlt : q < p.len.length
    · have hlt' : (q : Int) < p.ck.length := by omega
      have hlt2 : (q : Int) < p.len.length := by omega
      have hq2 : q < p.ck.length := by omega
      obtain ⟨b2, o2, B, cB, rfl, hfc2, hB, hcB, hcB'⟩ := hck.fc hq2
      have hcc := hfc2.c
      obtain ⟨b1, o1, rfl, _, hcl⟩ := hln.atNS hlt
      have HLA := Lib.hid (HP.out.2.row q hlt).last
      have hrl := HP.out.2.rowLen hlt
      have hrp : 0 < (rowOf p.ck q).length := by obtain ⟨r, hr⟩ := (HP.out.2.row q hlt).head; rw [hr]; simp
      have HAR := Lib.hid (show alRow p F q = if q ∈ F ∨ nth p.len q ∈ rowOf p.ck q then rowOf p.ck q else rowOf p.ck q ++ [nth p.len q] from rfl)
      have HSU := Lib.hid (alTo_succ (p := p) (F := F) hlt)
      have HAL := Lib.hid (alTo_len (p := p) (F := F) hq)
      have hvl : q < vs.length := by rw [HV.out.length, HAL.out, Nat.mul_one]; exact hlt
      obtain ⟨bl, ol, rfl, _, hcla⟩ := hB.atNS (k := (rowOf p.ck q).length - 1) (by omega)
      clear hfc2
      generalize hl : rowOf p.ck q = l at *
      generalize hm : nth p.len q = m at *
      have hlz : ((l.length : Int) - 1) = ((l.length - 1 : Nat) : Int) := by omega
      have hlz2 : (l.length - 1 : Nat) < l.length := by omega
      generalize hlst : nth l (l.length - 1) = lst at *
      have hcv : ∀ v : Value, (vs.set q v)[q]? = some v := fun v => by simp [hvl]
      by_cases hqF : q ∈ F
      · have dF : decide ((q : Int) ∈ F.map (fun f : Nat => (f : Int))) = true := decide_eq_true (mem_nats.2 hqF)
        have HR := Lib.hid (show alRow p F q = l by rw [HAR.out, if_pos (.inl hqF)])
        clear hqF
        go_wp2_with (first | (go_at_call 52; refine (clone_any _ _ l _ (hB.ext hS.toExt) (by omega)).mono ?_; rintro e w he; obtain ⟨Lx, cx, rfl, ho, hx1, hcx⟩ := he.un; replace hS := hS.addRow ho hx1; clear he ho) | (go_at_call 61; refine (HX.out _ _ hS.toExt).mono ?_; rintro e w ⟨rfl, hx1⟩; replace hS := hS.ext hx1; rw [dF]) | (refine oL ?_; (first | refine sL1 hS rfl rfl rfl ?_ | refine sL2 hS rfl rfl rfl ?_ | refine sL3 hS rfl rfl ?_ | refine sL4 hS rfl rfl ?_ | refine sL5 hS rfl rfl ?_ | refine sL6 hS rfl rfl ?_ | refine sL7 hS rfl rfl ?_)) | (refine oS ?_; ((first | refine sS1 hS rfl rfl rfl ?_ | refine sS2 hS rfl rfl rfl ?_ | refine sS3 hS rfl rfl rfl ?_ | refine sS4 hS rfl rfl rfl ?_ | refine sS5 hS rfl rfl rfl ?_); clear hS; intro w hS)) | (refine oP ?_; ((first | refine sP1 hS rfl rfl rfl ?_ | refine sP2 hS rfl rfl rfl ?_ | refine sP3 hS rfl rfl rfl ?_); clear hS; first | ((fail_if_success guard_hyp L1); intro L1 cl1 w hL1 hM1 hS) | ((fail_if_success guard_hyp L2); intro L2 cl2 w hL2 hM2 hS) | fail)) | ((first | (refine oB ?_; first | refine sB1 hS rfl rfl ?_ | refine sB2 hS rfl rfl ?_) | (refine oC ?_; first | refine sC0 hS rfl ?_ | refine sC1 hS rfl rfl ?_ | refine sC2 hS rfl rfl ?_ | refine sC3 hS rfl rfl rfl ?_ | refine sC4 hS rfl rfl rfl ?_) | refine sM1 hS rfl rfl rfl ?_); clear hS; first | ((fail_if_success guard_hyp g1); intro g1 w hS) | ((fail_if_success guard_hyp g2); intro g2 w hS) | ((fail_if_success guard_hyp g3); intro g3 w hS) | ((fail_if_success guard_hyp g4); intro g4 w hS) | fail) | fail)
        obtain ⟨T2, hS2, hr2⟩ := hS.rowSet HV.out rfl hcx (k := q) (by rw [HAL.out]; exact hlt)
        go_roundw
        case measure => simp [intOf]; omega
        exact ⟨q + 1, _, T2, _, by omega, by go_num, Lib.hid (by rw [← HSU.out, HR.out]; exact hr2), hS2.re⟩
      · have dF : decide ((q : Int) ∈ F.map (fun f : Nat => (f : Int))) = false := decide_eq_false (fun h => hqF (mem_nats.1 h))
        by_cases hlm : lst = m
        · have db : (lst != m) = false := by simp [hlm]
          have HR := Lib.hid (show alRow p F q = l by rw [HAR.out, if_pos (.inr (HLA.out.1 hlm))])
          clear hqF hlm
          go_wp2_with (first | (go_at_call 52; refine (clone_any _ _ l _ (hB.ext hS.toExt) (by omega)).mono ?_; rintro e w he; obtain ⟨Lx, cx, rfl, ho, hx1, hcx⟩ := he.un; replace hS := hS.addRow ho hx1; clear he ho) | (go_at_call 61; refine (HX.out _ _ hS.toExt).mono ?_; rintro e w ⟨rfl, hx1⟩; replace hS := hS.ext hx1; rw [dF]) | (refine oL ?_; (first | refine sL1 hS rfl rfl rfl ?_ | refine sL2 hS rfl rfl rfl ?_ | refine sL3 hS rfl rfl ?_ | refine sL4 hS rfl rfl ?_ | refine sL5 hS rfl rfl ?_ | refine sL6 hS rfl rfl ?_ | refine sL7 hS rfl rfl ?_)) | (refine oS ?_; ((first | refine sS1 hS rfl rfl rfl ?_ | refine sS2 hS rfl rfl rfl ?_ | refine sS3 hS rfl rfl rfl ?_ | refine sS4 hS rfl rfl rfl ?_ | refine sS5 hS rfl rfl rfl ?_); clear hS; intro w hS)) | (refine oP ?_; ((first | refine sP1 hS rfl rfl rfl ?_ | refine sP2 hS rfl rfl rfl ?_ | refine sP3 hS rfl rfl rfl ?_); clear hS; first | ((fail_if_success guard_hyp L1); intro L1 cl1 w hL1 hM1 hS) | ((fail_if_success guard_hyp L2); intro L2 cl2 w hL2 hM2 hS) | fail)) | ((first | (refine oB ?_; first | refine sB1 hS rfl rfl ?_ | refine sB2 hS rfl rfl ?_) | (refine oC ?_; first | refine sC0 hS rfl ?_ | refine sC1 hS rfl rfl ?_ | refine sC2 hS rfl rfl ?_ | refine sC3 hS rfl rfl rfl ?_ | refine sC4 hS rfl rfl rfl ?_) | refine sM1 hS rfl rfl rfl ?_); clear hS; first | ((fail_if_success guard_hyp g1); intro g1 w hS) | ((fail_if_success guard_hyp g2); intro g2 w hS) | ((fail_if_success guard_hyp g3); intro g3 w hS) | ((fail_if_success guard_hyp g4); intro g4 w hS) | fail) | fail)
          obtain ⟨T2, hS2, hr2⟩ := hS.rowSet HV.out rfl hcx (k := q) (by rw [HAL.out]; exact hlt)
          go_roundw
          case measure => simp [intOf]; omega
          exact ⟨q + 1, _, T2, _, by omega, by go_num, Lib.hid (by rw [← HSU.out, HR.out]; exact hr2), hS2.re⟩
        · have db : (lst != m) = true := by simp [hlm]
          have HR := Lib.hid (show alRow p F q = l ++ [m] by rw [HAR.out, if_neg (by rintro (h | h); exact hqF h; exact hlm (HLA.out.2 h))])
          clear hqF hlm
          go_wp2_with (first | (go_at_call 52; refine (clone_any _ _ l _ (hB.ext hS.toExt) (by omega)).mono ?_; rintro e w he; obtain ⟨Lx, cx, rfl, ho, hx1, hcx⟩ := he.un; replace hS := hS.addRow ho hx1; clear he ho; have hcv1 := hcv (.slice Lx l.length cx)) | (go_at_call 61; refine (HX.out _ _ hS.toExt).mono ?_; rintro e w ⟨rfl, hx1⟩; replace hS := hS.ext hx1; rw [dF]) | (refine oL ?_; (first | refine sL1 hS rfl rfl rfl ?_ | refine sL2 hS rfl rfl rfl ?_ | refine sL3 hS rfl rfl ?_ | refine sL4 hS rfl rfl ?_ | refine sL5 hS rfl rfl ?_ | refine sL6 hS rfl rfl ?_ | refine sL7 hS rfl rfl ?_)) | (refine oS ?_; ((first | refine sS1 hS rfl rfl rfl ?_ | refine sS2 hS rfl rfl rfl ?_ | refine sS3 hS rfl rfl rfl ?_ | refine sS4 hS rfl rfl rfl ?_ | refine sS5 hS rfl rfl rfl ?_); clear hS; intro w hS)) | (refine oP ?_; ((first | refine sP1 hS rfl rfl rfl ?_ | refine sP2 hS rfl rfl rfl ?_ | refine sP3 hS rfl rfl rfl ?_); clear hS; first | ((fail_if_success guard_hyp L1); intro L1 cl1 w hL1 hM1 hS) | ((fail_if_success guard_hyp L2); intro L2 cl2 w hL2 hM2 hS) | fail)) | ((first | (refine oB ?_; first | refine sB1 hS rfl rfl ?_ | refine sB2 hS rfl rfl ?_) | (refine oC ?_; first | refine sC0 hS rfl ?_ | refine sC1 hS rfl rfl ?_ | refine sC2 hS rfl rfl ?_ | refine sC3 hS rfl rfl rfl ?_ | refine sC4 hS rfl rfl rfl ?_) | refine sM1 hS rfl rfl rfl ?_); clear hS; first | ((fail_if_success guard_hyp g1); intro g1 w hS) | ((fail_if_success guard_hyp g2); intro g2 w hS) | ((fail_if_success guard_hyp g3); intro g3 w hS) | ((fail_if_success guard_hyp g4); intro g4 w hS) | fail) | fail)
          rw [List.set_set] at hS
          obtain ⟨T2, hS2, hr2⟩ := hS.rowSet HV.out (by simp) ⟨by simpa using hL1, hM1⟩ (k := q) (by rw [HAL.out]; exact hlt)
          rw [List.length_append, List.length_singleton] at hr2
          go_roundw
          case measure => simp [intOf]; omega
          exact ⟨q + 1, _, T2, _, by omega, by go_num, Lib.hid (by rw [← HSU.out, HR.out]; exact hr2), hS2.re⟩
    · have e : q = p.len.length := by omega
      subst e
      have hlt' : ¬ (p.len.length : Int) < p.ck.length := by omega
      go_wp2_with (first | (refine oL ?_; (first | refine sL1 hS rfl rfl rfl ?_ | refine sL2 hS rfl rfl rfl ?_ | refine sL3 hS rfl rfl ?_ | refine sL4 hS rfl rfl ?_ | refine sL5 hS rfl rfl ?_ | refine sL6 hS rfl rfl ?_ | refine sL7 hS rfl rfl ?_)) | (refine oS ?_; ((first | refine sS1 hS rfl rfl rfl ?_ | refine sS2 hS rfl rfl rfl ?_ | refine sS3 hS rfl rfl rfl ?_ | refine sS4 hS rfl rfl rfl ?_ | refine sS5 hS rfl rfl rfl ?_); clear hS; intro w hS)) | (refine oP ?_; ((first | refine sP1 hS rfl rfl rfl ?_ | refine sP2 hS rfl rfl rfl ?_ | refine sP3 hS rfl rfl rfl ?_); clear hS; first | ((fail_if_success guard_hyp L1); intro L1 cl1 w hL1 hM1 hS) | ((fail_if_success guard_hyp L2); intro L2 cl2 w hL2 hM2 hS) | fail)) | ((first | (refine oB ?_; first | refine sB1 hS rfl rfl ?_ | refine sB2 hS rfl rfl ?_) | (refine oC ?_; first | refine sC0 hS rfl ?_ | refine sC1 hS rfl rfl ?_ | refine sC2 hS rfl rfl ?_ | refine sC3 hS rfl rfl rfl ?_ | refine sC4 hS rfl rfl rfl ?_) | refine sM1 hS rfl rfl rfl ?_); clear hS; first | ((fail_if_success guard_hyp g1); intro g1 w hS) | ((fail_if_success guard_hyp g2); intro g2 w hS) | ((fail_if_success guard_hyp g3); intro g3 w hS) | ((fail_if_success guard_hyp g4); intro g4 w hS) | fail) | fail)
      go_ret
      have hrr : RR (Orn S w0) wr (some ⟨g2, 0, none⟩) (alF p F) := ⟨vs, hS.rvNew, by rw [← alTo_all]; exact HV.out.mono (repRow.into hS.frozOrn)⟩
      exact ⟨_, _, by rw [alF_len, HCKL.out]; rfl, by rw [alF_len]; exact Nat.le_refl _, by omega, hrr, hS.toExt⟩
set_option maxRecDepth 100000 in
set_option maxHeartbeats 3200000 in
theorem failure_any {S T : Nat → Prop} (v : PV) (X : Option Addr) (c n : Nat) (p : Pat) (F : List Nat) (w0 : World) (hp : PatAt S w0 v p) (hg : Good p) (hx : RI T w0 X (F.map (fun f : Nat => (f : Int)))) (hF : F.length = n) (hFl : n ≤ 1000) :
    Calls Try.prog 19 #[v.val p, .slice X n c] w0 (RetI S w0 p.len.length (lineOf p F)) := by
  have hS := St.start w0 NoM
  have HP := Lib.hid (And.intro hp hg)
  have hal := alF_ok hg F
  have hrw : ∀ q, q < p.len.length → (rowOf (alF p F) q).length ≤ 1000 := fun q hq => by
    rw [alF_row hq]
    have := hg.rowLen hq
    unfold alRow
    split
    · omega
    · simp; omega
  have HAL := Lib.hid (And.intro hal hrw)
  clear hp hg hal hrw
  go_enter Try.func19, Try.ntmps19
  go_wp2_with (first | ((first | (refine oB ?_; first | refine sB1 hS rfl rfl ?_ | refine sB2 hS rfl rfl ?_)); clear hS; first | ((fail_if_success guard_hyp g1); intro g1 w hS) | ((fail_if_success guard_hyp g2); intro g2 w hS) | fail) | fail)
  refine dr_start0 []  hS (by kernel_rfl) rfl ?_; clear hS; intro w hS
  first | refine dL1 hS 0 rfl rfl rfl rfl ?_ | refine dL2 hS 0 rfl rfl rfl rfl ?_ | refine dL3 hS 0 rfl rfl rfl ?_ | refine dL4 hS 0 rfl rfl rfl ?_ | refine dL5 hS 0 rfl rfl rfl ?_ | refine dL6 hS 0 rfl rfl rfl ?_ | refine dL7 hS 0 rfl rfl rfl ?_
  (try simp only [Act.put, nA, nB, nC])
  first | refine dL1 hS 1 rfl rfl rfl rfl ?_ | refine dL2 hS 1 rfl rfl rfl rfl ?_ | refine dL3 hS 1 rfl rfl rfl ?_ | refine dL4 hS 1 rfl rfl rfl ?_ | refine dL5 hS 1 rfl rfl rfl ?_ | refine dL6 hS 1 rfl rfl rfl ?_ | refine dL7 hS 1 rfl rfl rfl ?_
  (try simp only [Act.put, nA, nB, nC])
  refine dM hS 2 rfl rfl rfl ?_
  (try simp only [Act.put, nA, nB, nC])
  refine dr_one 3 (by kernel_rfl) rfl ?_
  (refine st_call rfl (by kernel_rfl) rfl ?_; go_at_call 47; refine (allowed_any v X c n p F _ (HP.out.1.ext hS.toExt) HP.out.2 (hx.ext hS.toExt) hF hFl).mono ?_; rintro e w ⟨LA, cA, rfl, hcA, hcA', hrr, hx1⟩; have hle := hS.toExt.size; replace hS := hS.ext hx1)
  (try simp only [Act.put, nA, nB, nC])
  refine dr_end hS ?_
  refine dr_one 4 (by kernel_rfl) rfl ?_
  (refine st_call rfl (by kernel_rfl) rfl ?_; go_at_call 46; refine (greatest_any v LA cA (alF p F).length p (alF p F) _ (HP.out.1.ext hS.toExt) HP.out.2 hrr HAL.out.1 HAL.out.2 rfl).mono ?_; rintro e w ⟨y, LG, cG, hfin, rfl, hcG, hcG', hri, hx2⟩; have hle2 := hS.toExt.size; replace hS := hS.ext hx2)
  (try simp only [Act.put, nA, nB, nC])
  refine dr_end hS ?_
  refine dM hS 5 rfl rfl rfl ?_
  (try simp only [Act.put, nA, nB, nC])
  refine dP hS 6 rfl rfl ?_
  (try simp only [Act.put, nA, nB, nC])
  refine dP hS 7 rfl rfl ?_
  (try simp only [Act.put, nA, nB, nC])
  refine dA hS 8 rfl rfl rfl ?_
  (try simp only [Act.put, nA, nB, nC])
  refine dA hS 9 rfl rfl rfl ?_
  (try simp only [Act.put, nA, nB, nC])
  refine dr_done (by kernel_rfl) ?_
  go_wp2_with (first | ((first | (refine oB ?_; first | refine sB1 hS rfl rfl ?_ | refine sB2 hS rfl rfl ?_)); clear hS; first | ((fail_if_success guard_hyp g1); intro g1 w hS) | ((fail_if_success guard_hyp g2); intro g2 w hS) | fail) | fail)
  go_ret
  have hy := lineOf_eq HP.out.2 (line_fin HAL.out.1 HP.out.2 hfin)
  subst hy
  exact ⟨LG, cG, rfl, hcG, hcG', hri.sub (fun k hk => by
    rcases hk with (h | h | h) | h
    · exact .inl h
    · exact .inl h
    · exact .inr (by omega)
    · exact .inr (by omega)), hS.toExt⟩
end Go.Proofs.Ytombhhhaidmpeaa
