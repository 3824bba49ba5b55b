/- Needed checkpoints: collect.Needed. Conditions: the pattern is good and lies in memory. -/
import Derived.Test.YtombhhhaidmpeaaLineA
import Derived.Test.YtombhhhaidmpeaaGe
import Derived.Test.YtombhhhaidmpeaaGf
import Derived.Test.YtombhhhaidmpeaaMkZ
namespace Go.Proofs.Ytombhhhaidmpeaa
open Go.RowKit
set_option linter.unusedVariables false
set_option linter.unusedSimpArgs false
set_option linter.unusedSectionVars false

instance : MapT Try.prog 80 4 (.bool false) := ⟨Try.underlying80, by kernel_rfl⟩
/-- what was marked behind f whole lines and j places of the next -/
def MkP (p : Pat) (f j : Nat) (a b : Int) : Prop := ∃ f' q' : Nat, (f' < f ∨ (f' = f ∧ q' < j)) ∧ q' < p.len.length ∧ a = q' ∧ b = nth (lineOf p [f']) q'
def MkM (p : Pat) (f j : Nat) (m : Int × Int → Option Value) : Prop := ∀ a b, (MkP p f j a b → m (a, b) = some (.bool true)) ∧ (¬ MkP p f j a b → m (a, b) = none)
theorem MkM.zero (p : Pat) : MkM p 0 0 (fun _ => none) := fun a b => ⟨fun ⟨f', q', h, _⟩ => by omega, fun _ => rfl⟩
theorem MkM.step {p : Pat} {f j : Nat} {m : Int × Int → Option Value} (h : MkM p f j m) (hj : j < p.len.length) : MkM p f (j + 1) (mput m ((j : Int), nth (lineOf p [f]) j) (.bool true)) := fun a b => by
  have hnew : MkP p f (j + 1) a b ↔ MkP p f j a b ∨ (a = j ∧ b = nth (lineOf p [f]) j) := by
    constructor
    · rintro ⟨f', q', h1, h2, h3, h4⟩
      by_cases hq : f' = f ∧ q' = j
      · right; rw [hq.1, hq.2] at h4; rw [hq.2] at h3; exact ⟨h3, h4⟩
      · left; exact ⟨f', q', by omega, h2, h3, h4⟩
    · rintro (⟨f', q', h1, h2, h3, h4⟩ | ⟨h1, h2⟩)
      · exact ⟨f', q', by omega, h2, h3, h4⟩
      · exact ⟨f, j, by omega, hj, h1, h2⟩
  unfold mput
  by_cases he : a = j ∧ b = nth (lineOf p [f]) j
  · obtain ⟨e1, e2⟩ := he
    rw [if_pos (by rw [e1, e2])]
    exact ⟨fun _ => rfl, fun hn => absurd (hnew.2 (.inr ⟨e1, e2⟩)) hn⟩
  · rw [if_neg (fun e => he (by injection e with e1 e2; exact ⟨e1, e2⟩))]
    exact ⟨fun hp => (h a b).1 ((hnew.1 hp).resolve_right he), fun hn => (h a b).2 (fun hp => hn (hnew.2 (.inl hp)))⟩
theorem MkM.next {p : Pat} {f : Nat} {m : Int × Int → Option Value} (h : MkM p f p.len.length m) : MkM p (f + 1) 0 m := fun a b => by
  have hnew : MkP p (f + 1) 0 a b ↔ MkP p f p.len.length a b := by
    constructor
    · rintro ⟨f', q', h1, h2, h3, h4⟩; exact ⟨f', q', by omega, h2, h3, h4⟩
    · rintro ⟨f', q', h1, h2, h3, h4⟩; exact ⟨f', q', by omega, h2, h3, h4⟩
  rw [hnew]; exact h a b
theorem MkM.get {p : Pat} {m : Int × Int → Option Value} (h : MkM p p.len.length 0 m) {q : Nat} (hq : q < p.len.length) (k : Int) : mget m (.bool false) ((q : Int), k) = .bool (needB p q k) := by
  have hiff : MkP p p.len.length 0 q k ↔ needB p q k = true := by
    unfold needB
    rw [List.any_eq_true]
    constructor
    · rintro ⟨f', q', h1, h2, h3, h4⟩
      have : q = q' := by omega
      subst this
      exact ⟨f', List.mem_range.2 (by omega), by simp [h4]⟩
    · rintro ⟨f, hf, h4⟩
      exact ⟨f, q, by have := List.mem_range.1 hf; omega, hq, rfl, by simpa using Eq.symm (by simpa using h4)⟩
  unfold mget
  by_cases hb : needB p q k = true
  · rw [(h _ _).1 (hiff.2 hb), hb]; rfl
  · rw [(h _ _).2 (fun h1 => hb (hiff.1 h1))]
    have : needB p q k = false := by simpa using hb
    rw [this]; rfl
theorem mid_get {vs1 rest : List Value} {v : Value} {q : Nat} (h : vs1.length = q) : (vs1 ++ v :: rest)[q]? = some v := by
  subst h; simp
theorem mid_set {vs1 rest : List Value} {v u : Value} {q : Nat} (h : vs1.length = q) : (vs1 ++ v :: rest).set q u = vs1 ++ u :: rest := by
  subst h; simp
abbrev nilS : Value := .slice none 0 0
theorem needRow_take {p : Pat} {q j : Nat} {l : List Int} (hj : j < l.length) : (l.take (j + 1)).filter (needB p q) = (l.take j).filter (needB p q) ++ if needB p q (nth l j) = true then [nth l j] else [] := by
  rw [List.take_succ_eq_append_getElem hj, List.filter_append, nth_eq hj]
  by_cases h : needB p q l[j] = true <;> simp [h]
theorem St.riB {w0 w : World} {M : Nat → Prop} {cs : List (Chunk w0 M)} {f : Chunk w0 M → List (Chunk w0 M)} {t : TypeId} {vs : List Value} (h : St w0 M cs w) (g : Nat) [hp : PickB g cs vs t f] (xs : List Int) (hv : vs = ints xs) : RI All w (some ⟨g, 0, none⟩) xs := fun j u hu =>
  ⟨g, 0, rfl, trivial, by rw [Nat.zero_add]; exact h.cellB (hp := hp) (by rw [hv]; exact hu)⟩
theorem Into.then {S T U : Nat → Prop} {w u v : World} (h : Into S T w u) (k : Into T U u v) : Into S U w v := fun b hb hl => by
  obtain ⟨h1, h2⟩ := h b hb hl
  have hlt : b < u.heap.size := by
    have : u.heap[b]? = some w.heap[b] := h2.trans (Array.getElem?_eq_getElem hl)
    exact lt_of_block this
  obtain ⟨k1, k2⟩ := k b h1 hlt
  exact ⟨k1, k2.trans h2⟩
theorem PatAt.here {S : Nat → Prop} {w : World} {v : PV} {p : Pat} (h : PatAt S w v p) : PatAt (fun k => S k ∧ k < w.heap.size) w v p := h.into (fun k hk hl => ⟨⟨hk, hl⟩, rfl⟩)
set_option maxRecDepth 100000 in
set_option maxHeartbeats 6400000 in
theorem needed_any {S : Nat → Prop} (v : PV) (p : Pat) (w0 : World) (hp : PatAt S w0 v p) (hg : Good p) :
    Calls Try.prog 15 #[v.val p] w0 (RetRR S w0 (needL p)) := by
  have hS := St.startF w0 S
  have hn5 := hg.n5
  have hn2 := hg.n2
  have HCKL := Lib.hid hg.ckl
  have hck1 : p.ck.length ≤ p.len.length := by have := HCKL.out; omega
  have hck2 : p.len.length ≤ p.ck.length := by have := HCKL.out; omega
  have HP := Lib.hid hp.here
  have HG := Lib.hid hg
  clear hp hg
  obtain ⟨A1, c1, A2, c2, A3, c3⟩ := v
  simp only [PV.val] at *
  go_enter Try.func15, Try.ntmps15
  go_wp2_with (first | (go_at_call 36; refine (check_good ⟨A1, c1, A2, c2, A3, c3⟩ p _ (HP.out.into hS.frozInto) HG.out).mono ?_; rintro e w ⟨rfl, hx1⟩; replace hS := hS.ext hx1) | (refine sW1 hS rfl ?_; clear hS; intro g2 w hS) | (refine oL ?_; (first | refine sL1 hS rfl rfl rfl ?_ | refine sL2 hS rfl rfl rfl ?_ | refine sL3 hS rfl rfl ?_ | refine sL4 hS rfl rfl ?_ | refine sL5 hS rfl rfl ?_ | refine sL6 hS rfl rfl ?_ | refine sL7 hS rfl rfl ?_)) | (refine oS ?_; ((first | refine sS1 hS rfl rfl rfl ?_ | refine sS2 hS rfl rfl rfl ?_ | refine sS3 hS rfl rfl rfl ?_ | refine sS4 hS rfl rfl rfl ?_ | refine sS5 hS rfl rfl rfl ?_); clear hS; intro w hS)) | (refine oK ?_; (first | refine sK1 hS rfl rfl rfl ?_ | refine sK2 hS rfl rfl rfl ?_ | refine sK3 hS rfl rfl rfl ?_)) | (refine oU ?_; (refine sU1 hS rfl rfl rfl rfl ?_; clear hS; intro w hS)) | (skip; (refine sW1 hS rfl ?_; clear hS; first | ((fail_if_success guard_hyp g1); intro g1 w hS) | ((fail_if_success guard_hyp g2); intro g2 w hS) | ((fail_if_success guard_hyp g3); intro g3 w hS) | ((fail_if_success guard_hyp g4); intro g4 w hS) | ((fail_if_success guard_hyp g5); intro g5 w hS) | ((fail_if_success guard_hyp g6); intro g6 w hS) | fail)) | (refine oP ?_; ((first | refine sP1 hS rfl rfl rfl ?_ | refine sP2 hS rfl rfl rfl ?_ | refine sP3 hS rfl rfl rfl ?_); clear hS; first | ((fail_if_success guard_hyp L1); intro L1 cl1 w hL1 hM1 hS) | ((fail_if_success guard_hyp L2); intro L2 cl2 w hL2 hM2 hS) | fail)) | ((first | (refine oB ?_; first | refine sB1 hS rfl rfl ?_ | refine sB2 hS rfl rfl ?_) | (refine oC ?_; first | refine sC0 hS rfl ?_ | refine sC1 hS rfl rfl ?_ | refine sC2 hS rfl rfl ?_ | refine sC3 hS rfl rfl rfl ?_ | refine sC4 hS rfl rfl rfl ?_) | refine sM1 hS rfl rfl rfl ?_); clear hS; first | ((fail_if_success guard_hyp g1); intro g1 w hS) | ((fail_if_success guard_hyp g2); intro g2 w hS) | ((fail_if_success guard_hyp g3); intro g3 w hS) | ((fail_if_success guard_hyp g4); intro g4 w hS) | ((fail_if_success guard_hyp g5); intro g5 w hS) | ((fail_if_success guard_hyp g6); intro g6 w hS) | fail) | fail)
  go_loopw [4, 5, 6, 19] (fun s4 s5 s6 s19 wr => ∃ (f : Nat) (T : Nat → Prop) (u : World) (m : Int × Int → Option Value), f ≤ p.len.length ∧ s19 = .int .i64 f ∧ Hid (PatAt T u ⟨A1, c1, A2, c2, A3, c3⟩ p ∧ MkM p f 0 m ∧ Into (fun k => S k ∧ k < w0.heap.size) T w0 u) ∧ St w0 (fun k => S k ∧ k < w0.heap.size) [mpc g2 m, blk g1 [.slice A1 p.len.length c1, .slice A2 p.ck.length c2, .slice A3 p.arcs.length c3] 28, froz T u] wr) (fun _ _ _ s19 _ => p.len.length - (intOf s19).toNat)
  case atStart => exact ⟨0, _, _, _, by omega, rfl, Lib.hid ⟨HP.out, MkM.zero p, fun k hk _ => ⟨hk, rfl⟩⟩, hS⟩
  case round =>
    clear hS
    obtain ⟨f, T, u, m, hf, rfl, HV, hS⟩ := hrel
    by_cases hlt : f < p.len.length
    · have hlt' : (f : Int) < p.len.length := by omega
      have HLL := Lib.hid (lineOf_len HG.out [f])
      go_wp2_with (first | (go_at_call 19; refine (failure_any (T := All) ⟨A1, c1, A2, c2, A3, c3⟩ _ _ 1 p [f] _ (HV.out.1.into hS.frozInto) HG.out (hS.riB g3 [(f : Int)] rfl) rfl (by omega)).mono ?_; rintro e w2 ⟨LG, cG, rfl, hcG, hcG', hri, hx1⟩; obtain ⟨T2, hS2, hi1, hi0⟩ := hS.grow hx1; replace hri := hri.into hi1; have HV2 := Lib.hid (And.intro (HV.out.1.into hi0) (HV.out.2.2.then hi0)); clear hi1 hi0 hS hx1; replace hS := hS2; clear hS2) | (refine oL ?_; (first | refine sL1 hS rfl rfl rfl ?_ | refine sL2 hS rfl rfl rfl ?_ | refine sL3 hS rfl rfl ?_ | refine sL4 hS rfl rfl ?_ | refine sL5 hS rfl rfl ?_ | refine sL6 hS rfl rfl ?_ | refine sL7 hS rfl rfl ?_)) | (refine oS ?_; ((first | refine sS1 hS rfl rfl rfl ?_ | refine sS2 hS rfl rfl rfl ?_ | refine sS3 hS rfl rfl rfl ?_ | refine sS4 hS rfl rfl rfl ?_ | refine sS5 hS rfl rfl rfl ?_); clear hS; intro w hS)) | (refine oK ?_; (first | refine sK1 hS rfl rfl rfl ?_ | refine sK2 hS rfl rfl rfl ?_ | refine sK3 hS rfl rfl rfl ?_)) | (refine oU ?_; (refine sU1 hS rfl rfl rfl rfl ?_; clear hS; intro w hS)) | (skip; (refine sW1 hS rfl ?_; clear hS; first | ((fail_if_success guard_hyp g1); intro g1 w hS) | ((fail_if_success guard_hyp g2); intro g2 w hS) | ((fail_if_success guard_hyp g3); intro g3 w hS) | ((fail_if_success guard_hyp g4); intro g4 w hS) | ((fail_if_success guard_hyp g5); intro g5 w hS) | ((fail_if_success guard_hyp g6); intro g6 w hS) | fail)) | (refine oP ?_; ((first | refine sP1 hS rfl rfl rfl ?_ | refine sP2 hS rfl rfl rfl ?_ | refine sP3 hS rfl rfl rfl ?_); clear hS; first | ((fail_if_success guard_hyp L1); intro L1 cl1 w hL1 hM1 hS) | ((fail_if_success guard_hyp L2); intro L2 cl2 w hL2 hM2 hS) | fail)) | ((first | (refine oB ?_; first | refine sB1 hS rfl rfl ?_ | refine sB2 hS rfl rfl ?_) | (refine oC ?_; first | refine sC0 hS rfl ?_ | refine sC1 hS rfl rfl ?_ | refine sC2 hS rfl rfl ?_ | refine sC3 hS rfl rfl rfl ?_ | refine sC4 hS rfl rfl rfl ?_) | refine sM1 hS rfl rfl rfl ?_); clear hS; first | ((fail_if_success guard_hyp g1); intro g1 w hS) | ((fail_if_success guard_hyp g2); intro g2 w hS) | ((fail_if_success guard_hyp g3); intro g3 w hS) | ((fail_if_success guard_hyp g4); intro g4 w hS) | ((fail_if_success guard_hyp g5); intro g5 w hS) | ((fail_if_success guard_hyp g6); intro g6 w hS) | fail) | fail)
      go_loopw [5, 6, 27] (fun s5 s6 s27 wr => ∃ (j : Nat) (m' : Int × Int → Option Value), j ≤ p.len.length ∧ s27 = .int .i64 j ∧ Hid (MkM p f j m') ∧ St w0 (fun k => S k ∧ k < w0.heap.size) [mpc g2 m', blk g1 [.slice A1 p.len.length c1, .slice A2 p.ck.length c2, .slice A3 p.arcs.length c3] 28, froz T2 w2] wr) (fun _ _ s27 _ => p.len.length - (intOf s27).toNat)
      case atStart => exact ⟨0, m, by omega, rfl, Lib.hid HV.out.2.1, hS.re⟩
      case round =>
        clear hS
        obtain ⟨j, m', hj, rfl, HM, hS⟩ := hrel
        by_cases hjl : j < p.len.length
        · have hjl' : (j : Int) < p.len.length := by omega
          obtain ⟨bL, ofL, rfl, hfL⟩ := hri.fc (k := j) (by rw [HLL.out]; exact hjl)
          have HMS := Lib.hid (HM.out.step hjl)
          generalize nth (lineOf p [f]) j = y at *
          go_wp2_with (first | (refine oL ?_; (first | refine sL1 hS rfl rfl rfl ?_ | refine sL2 hS rfl rfl rfl ?_ | refine sL3 hS rfl rfl ?_ | refine sL4 hS rfl rfl ?_ | refine sL5 hS rfl rfl ?_ | refine sL6 hS rfl rfl ?_ | refine sL7 hS rfl rfl ?_)) | (refine oS ?_; ((first | refine sS1 hS rfl rfl rfl ?_ | refine sS2 hS rfl rfl rfl ?_ | refine sS3 hS rfl rfl rfl ?_ | refine sS4 hS rfl rfl rfl ?_ | refine sS5 hS rfl rfl rfl ?_); clear hS; intro w hS)) | (refine oK ?_; (first | refine sK1 hS rfl rfl rfl ?_ | refine sK2 hS rfl rfl rfl ?_ | refine sK3 hS rfl rfl rfl ?_)) | (refine oU ?_; (refine sU1 hS rfl rfl rfl rfl ?_; clear hS; intro w hS)) | (skip; (refine sW1 hS rfl ?_; clear hS; first | ((fail_if_success guard_hyp g1); intro g1 w hS) | ((fail_if_success guard_hyp g2); intro g2 w hS) | ((fail_if_success guard_hyp g3); intro g3 w hS) | ((fail_if_success guard_hyp g4); intro g4 w hS) | ((fail_if_success guard_hyp g5); intro g5 w hS) | ((fail_if_success guard_hyp g6); intro g6 w hS) | fail)) | (refine oP ?_; ((first | refine sP1 hS rfl rfl rfl ?_ | refine sP2 hS rfl rfl rfl ?_ | refine sP3 hS rfl rfl rfl ?_); clear hS; first | ((fail_if_success guard_hyp L1); intro L1 cl1 w hL1 hM1 hS) | ((fail_if_success guard_hyp L2); intro L2 cl2 w hL2 hM2 hS) | fail)) | ((first | (refine oB ?_; first | refine sB1 hS rfl rfl ?_ | refine sB2 hS rfl rfl ?_) | (refine oC ?_; first | refine sC0 hS rfl ?_ | refine sC1 hS rfl rfl ?_ | refine sC2 hS rfl rfl ?_ | refine sC3 hS rfl rfl rfl ?_ | refine sC4 hS rfl rfl rfl ?_) | refine sM1 hS rfl rfl rfl ?_); clear hS; first | ((fail_if_success guard_hyp g1); intro g1 w hS) | ((fail_if_success guard_hyp g2); intro g2 w hS) | ((fail_if_success guard_hyp g3); intro g3 w hS) | ((fail_if_success guard_hyp g4); intro g4 w hS) | ((fail_if_success guard_hyp g5); intro g5 w hS) | ((fail_if_success guard_hyp g6); intro g6 w hS) | fail) | fail)
          go_roundw
          case measure => simp [intOf]; omega
          exact ⟨j + 1, _, by omega, by go_num, HMS, hS⟩
        · have HE := Lib.hid (show j = p.len.length by omega)
          have hjl' : ¬ (j : Int) < p.len.length := by omega
          go_wp2_with (first | (refine oL ?_; (first | refine sL1 hS rfl rfl rfl ?_ | refine sL2 hS rfl rfl rfl ?_ | refine sL3 hS rfl rfl ?_ | refine sL4 hS rfl rfl ?_ | refine sL5 hS rfl rfl ?_ | refine sL6 hS rfl rfl ?_ | refine sL7 hS rfl rfl ?_)) | (refine oS ?_; ((first | refine sS1 hS rfl rfl rfl ?_ | refine sS2 hS rfl rfl rfl ?_ | refine sS3 hS rfl rfl rfl ?_ | refine sS4 hS rfl rfl rfl ?_ | refine sS5 hS rfl rfl rfl ?_); clear hS; intro w hS)) | (refine oK ?_; (first | refine sK1 hS rfl rfl rfl ?_ | refine sK2 hS rfl rfl rfl ?_ | refine sK3 hS rfl rfl rfl ?_)) | (refine oU ?_; (refine sU1 hS rfl rfl rfl rfl ?_; clear hS; intro w hS)) | (skip; (refine sW1 hS rfl ?_; clear hS; first | ((fail_if_success guard_hyp g1); intro g1 w hS) | ((fail_if_success guard_hyp g2); intro g2 w hS) | ((fail_if_success guard_hyp g3); intro g3 w hS) | ((fail_if_success guard_hyp g4); intro g4 w hS) | ((fail_if_success guard_hyp g5); intro g5 w hS) | ((fail_if_success guard_hyp g6); intro g6 w hS) | fail)) | (refine oP ?_; ((first | refine sP1 hS rfl rfl rfl ?_ | refine sP2 hS rfl rfl rfl ?_ | refine sP3 hS rfl rfl rfl ?_); clear hS; first | ((fail_if_success guard_hyp L1); intro L1 cl1 w hL1 hM1 hS) | ((fail_if_success guard_hyp L2); intro L2 cl2 w hL2 hM2 hS) | fail)) | ((first | (refine oB ?_; first | refine sB1 hS rfl rfl ?_ | refine sB2 hS rfl rfl ?_) | (refine oC ?_; first | refine sC0 hS rfl ?_ | refine sC1 hS rfl rfl ?_ | refine sC2 hS rfl rfl ?_ | refine sC3 hS rfl rfl rfl ?_ | refine sC4 hS rfl rfl rfl ?_) | refine sM1 hS rfl rfl rfl ?_); clear hS; first | ((fail_if_success guard_hyp g1); intro g1 w hS) | ((fail_if_success guard_hyp g2); intro g2 w hS) | ((fail_if_success guard_hyp g3); intro g3 w hS) | ((fail_if_success guard_hyp g4); intro g4 w hS) | ((fail_if_success guard_hyp g5); intro g5 w hS) | ((fail_if_success guard_hyp g6); intro g6 w hS) | fail) | fail)
          go_roundw
          case measure => simp [intOf]; omega
          have hm := HM.out
          rw [HE.out] at hm
          exact ⟨f + 1, _, _, _, by omega, by go_num, Lib.hid ⟨HV2.out.1, hm.next, HV2.out.2⟩, hS⟩
    · have HE := Lib.hid (show f = p.len.length by omega)
      have hlt' : ¬ (f : Int) < p.len.length := by omega
      have HMG := Lib.hid (fun q hq k => (show MkM p p.len.length 0 m from HE.out ▸ HV.out.2.1).get (q := q) hq k)
      go_wp2_with (first | (refine oM ?_; refine st_mkZ (n := p.ck.length) hS rfl rfl rfl rfl rfl (by omega) ?_; clear hS; intro g4 w hS) | (refine oL ?_; (first | refine sL1 hS rfl rfl rfl ?_ | refine sL2 hS rfl rfl rfl ?_ | refine sL3 hS rfl rfl ?_ | refine sL4 hS rfl rfl ?_ | refine sL5 hS rfl rfl ?_ | refine sL6 hS rfl rfl ?_ | refine sL7 hS rfl rfl ?_)) | (refine oS ?_; ((first | refine sS1 hS rfl rfl rfl ?_ | refine sS2 hS rfl rfl rfl ?_ | refine sS3 hS rfl rfl rfl ?_ | refine sS4 hS rfl rfl rfl ?_ | refine sS5 hS rfl rfl rfl ?_); clear hS; intro w hS)) | (refine oK ?_; (first | refine sK1 hS rfl rfl rfl ?_ | refine sK2 hS rfl rfl rfl ?_ | refine sK3 hS rfl rfl rfl ?_)) | (refine oU ?_; (refine sU1 hS rfl rfl rfl rfl ?_; clear hS; intro w hS)) | (skip; (refine sW1 hS rfl ?_; clear hS; first | ((fail_if_success guard_hyp g1); intro g1 w hS) | ((fail_if_success guard_hyp g2); intro g2 w hS) | ((fail_if_success guard_hyp g3); intro g3 w hS) | ((fail_if_success guard_hyp g4); intro g4 w hS) | ((fail_if_success guard_hyp g5); intro g5 w hS) | ((fail_if_success guard_hyp g6); intro g6 w hS) | fail)) | (refine oP ?_; ((first | refine sP1 hS rfl rfl rfl ?_ | refine sP2 hS rfl rfl rfl ?_ | refine sP3 hS rfl rfl rfl ?_); clear hS; first | ((fail_if_success guard_hyp L1); intro L1 cl1 w hL1 hM1 hS) | ((fail_if_success guard_hyp L2); intro L2 cl2 w hL2 hM2 hS) | fail)) | ((first | (refine oB ?_; first | refine sB1 hS rfl rfl ?_ | refine sB2 hS rfl rfl ?_) | (refine oC ?_; first | refine sC0 hS rfl ?_ | refine sC1 hS rfl rfl ?_ | refine sC2 hS rfl rfl ?_ | refine sC3 hS rfl rfl rfl ?_ | refine sC4 hS rfl rfl rfl ?_) | refine sM1 hS rfl rfl rfl ?_); clear hS; first | ((fail_if_success guard_hyp g1); intro g1 w hS) | ((fail_if_success guard_hyp g2); intro g2 w hS) | ((fail_if_success guard_hyp g3); intro g3 w hS) | ((fail_if_success guard_hyp g4); intro g4 w hS) | ((fail_if_success guard_hyp g5); intro g5 w hS) | ((fail_if_success guard_hyp g6); intro g6 w hS) | fail) | fail)
      go_loopw [8, 9, 11, 45] (fun s8 s9 s11 s45 wr => ∃ (q : Nat) (vs1 : List Value) (T1 : Nat → Prop) (u1 : World), q ≤ p.ck.length ∧ s45 = .int .i64 q ∧ Hid (PatAt T1 u1 ⟨A1, c1, A2, c2, A3, c3⟩ p ∧ Reps (repRow T1 u1) 1 vs1 ((needL p).take q) ∧ vs1.length = q ∧ Into (fun k => S k ∧ k < w0.heap.size) T1 w0 u1) ∧ St w0 (fun k => S k ∧ k < w0.heap.size) [row (.slice (some ⟨g4, 0, none⟩) p.ck.length p.ck.length) 24 1 p.ck.length (vs1 ++ List.replicate (p.ck.length - q) nilS), mpc g2 m, blk g1 [.slice A1 p.len.length c1, .slice A2 p.ck.length c2, .slice A3 p.arcs.length c3] 28, froz T1 u1] wr) (fun _ _ _ s45 _ => p.ck.length - (intOf s45).toNat)
      case atStart => exact ⟨0, [], _, _, by omega, rfl, Lib.hid ⟨HV.out.1, rfl, rfl, HV.out.2.2⟩, hS⟩
      case round =>
        clear hS
        obtain ⟨q, vs1, T1, u1, hq, rfl, HW, hS⟩ := hrel
        by_cases hql : q < p.ck.length
        · have hql' : (q : Int) < p.ck.length := by omega
          have hqn : q < p.len.length := by omega
          obtain ⟨b2, o2, B, cB, rfl, hfc2, hB, hcB, hcB'⟩ := HW.out.1.ck.fc hql
          have hrl := HG.out.rowLen hqn
          have HTK := Lib.hid (needL_take (p := p) hqn)
          have HNR := Lib.hid (show needRow p q = (rowOf p.ck q).filter (needB p q) from rfl)
          rw [show p.ck.length - q = (p.ck.length - (q + 1)) + 1 by omega, List.replicate_succ] at hS
          generalize rowOf p.ck q = l at *
          go_wp2_with (first | (refine oL ?_; (first | refine sL1 hS rfl rfl rfl ?_ | refine sL2 hS rfl rfl rfl ?_ | refine sL3 hS rfl rfl ?_ | refine sL4 hS rfl rfl ?_ | refine sL5 hS rfl rfl ?_ | refine sL6 hS rfl rfl ?_ | refine sL7 hS rfl rfl ?_)) | (refine oS ?_; ((first | refine sS1 hS rfl rfl rfl ?_ | refine sS2 hS rfl rfl rfl ?_ | refine sS3 hS rfl rfl rfl ?_ | refine sS4 hS rfl rfl rfl ?_ | refine sS5 hS rfl rfl rfl ?_); clear hS; intro w hS)) | (refine oK ?_; (first | refine sK1 hS rfl rfl rfl ?_ | refine sK2 hS rfl rfl rfl ?_ | refine sK3 hS rfl rfl rfl ?_)) | (refine oU ?_; (refine sU1 hS rfl rfl rfl rfl ?_; clear hS; intro w hS)) | (skip; (refine sW1 hS rfl ?_; clear hS; first | ((fail_if_success guard_hyp g1); intro g1 w hS) | ((fail_if_success guard_hyp g2); intro g2 w hS) | ((fail_if_success guard_hyp g3); intro g3 w hS) | ((fail_if_success guard_hyp g4); intro g4 w hS) | ((fail_if_success guard_hyp g5); intro g5 w hS) | ((fail_if_success guard_hyp g6); intro g6 w hS) | fail)) | (refine oP ?_; ((first | refine sP1 hS rfl rfl rfl ?_ | refine sP2 hS rfl rfl rfl ?_ | refine sP3 hS rfl rfl rfl ?_); clear hS; first | ((fail_if_success guard_hyp L1); intro L1 cl1 w hL1 hM1 hS) | ((fail_if_success guard_hyp L2); intro L2 cl2 w hL2 hM2 hS) | fail)) | ((first | (refine oB ?_; first | refine sB1 hS rfl rfl ?_ | refine sB2 hS rfl rfl ?_) | (refine oC ?_; first | refine sC0 hS rfl ?_ | refine sC1 hS rfl rfl ?_ | refine sC2 hS rfl rfl ?_ | refine sC3 hS rfl rfl rfl ?_ | refine sC4 hS rfl rfl rfl ?_) | refine sM1 hS rfl rfl rfl ?_); clear hS; first | ((fail_if_success guard_hyp g1); intro g1 w hS) | ((fail_if_success guard_hyp g2); intro g2 w hS) | ((fail_if_success guard_hyp g3); intro g3 w hS) | ((fail_if_success guard_hyp g4); intro g4 w hS) | ((fail_if_success guard_hyp g5); intro g5 w hS) | ((fail_if_success guard_hyp g6); intro g6 w hS) | fail) | fail)
          replace hS := hS.addNil 3 1
          go_loopw [11, 52] (fun s11 s52 wr => ∃ (j c : Nat) (L : Option Addr) (ys : List Int), j ≤ l.length ∧ ys.length ≤ j ∧ capOk ys.length c ∧ s52 = .int .i64 j ∧ Hid (ys = (l.take j).filter (needB p q)) ∧ St w0 (fun k => S k ∧ k < w0.heap.size) [irow 3 L c ys, row (.slice (some ⟨g4, 0, none⟩) p.ck.length p.ck.length) 24 1 p.ck.length (vs1 ++ .slice L ys.length c :: List.replicate (p.ck.length - (q + 1)) nilS), mpc g2 m, blk g1 [.slice A1 p.len.length c1, .slice (some ⟨b2, o2, none⟩) p.ck.length c2, .slice A3 p.arcs.length c3] 28, froz T1 u1] wr) (fun _ s52 _ => l.length - (intOf s52).toNat)
          case atStart => exact ⟨0, 0, none, [], by omega, by simp, by simp [capOk], rfl, Lib.hid (by simp), hS⟩
          case round =>
            clear hS
            obtain ⟨j, c, L, ys, hj, hyl, hcc, rfl, HY, hS⟩ := hrel
            by_cases hjl : j < l.length
            · have hjl' : (j : Int) < l.length := by omega
              obtain ⟨b4, o4, rfl, hf4⟩ := hB.fc hjl
              have HF := Lib.hid (needRow_take (p := p) (q := q) hjl)
              have hmg := HMG.out q hqn (nth l j)
              have hcv : (vs1 ++ Value.slice L ys.length c :: List.replicate (p.ck.length - (q + 1)) nilS)[q]? = some (.slice L ys.length c) := mid_get HW.out.2.2.1
              have hvl : q < (vs1 ++ Value.slice L ys.length c :: List.replicate (p.ck.length - (q + 1)) nilS).length := by rw [List.length_append, List.length_cons, HW.out.2.2.1]; omega
              generalize nth l j = k at *
              cases hb : needB p q k with
              | true =>
                rw [hb] at hmg HF
                rw [if_pos rfl] at HF
                go_wp2_with (first | (refine oK ?_; refine sK3 hS rfl rfl rfl ?_; rw [hmg]) | (refine oL ?_; (first | refine sL1 hS rfl rfl rfl ?_ | refine sL2 hS rfl rfl rfl ?_ | refine sL3 hS rfl rfl ?_ | refine sL4 hS rfl rfl ?_ | refine sL5 hS rfl rfl ?_ | refine sL6 hS rfl rfl ?_ | refine sL7 hS rfl rfl ?_)) | (refine oS ?_; ((first | refine sS1 hS rfl rfl rfl ?_ | refine sS2 hS rfl rfl rfl ?_ | refine sS3 hS rfl rfl rfl ?_ | refine sS4 hS rfl rfl rfl ?_ | refine sS5 hS rfl rfl rfl ?_); clear hS; intro w hS)) | (refine oK ?_; (first | refine sK1 hS rfl rfl rfl ?_ | refine sK2 hS rfl rfl rfl ?_ | refine sK3 hS rfl rfl rfl ?_)) | (refine oU ?_; (refine sU1 hS rfl rfl rfl rfl ?_; clear hS; intro w hS)) | (skip; (refine sW1 hS rfl ?_; clear hS; first | ((fail_if_success guard_hyp g1); intro g1 w hS) | ((fail_if_success guard_hyp g2); intro g2 w hS) | ((fail_if_success guard_hyp g3); intro g3 w hS) | ((fail_if_success guard_hyp g4); intro g4 w hS) | ((fail_if_success guard_hyp g5); intro g5 w hS) | ((fail_if_success guard_hyp g6); intro g6 w hS) | fail)) | (refine oP ?_; ((first | refine sP1 hS rfl rfl rfl ?_ | refine sP2 hS rfl rfl rfl ?_ | refine sP3 hS rfl rfl rfl ?_); clear hS; first | ((fail_if_success guard_hyp L1); intro L1 cl1 w hL1 hM1 hS) | ((fail_if_success guard_hyp L2); intro L2 cl2 w hL2 hM2 hS) | fail)) | ((first | (refine oB ?_; first | refine sB1 hS rfl rfl ?_ | refine sB2 hS rfl rfl ?_) | (refine oC ?_; first | refine sC0 hS rfl ?_ | refine sC1 hS rfl rfl ?_ | refine sC2 hS rfl rfl ?_ | refine sC3 hS rfl rfl rfl ?_ | refine sC4 hS rfl rfl rfl ?_) | refine sM1 hS rfl rfl rfl ?_); clear hS; first | ((fail_if_success guard_hyp g1); intro g1 w hS) | ((fail_if_success guard_hyp g2); intro g2 w hS) | ((fail_if_success guard_hyp g3); intro g3 w hS) | ((fail_if_success guard_hyp g4); intro g4 w hS) | ((fail_if_success guard_hyp g5); intro g5 w hS) | ((fail_if_success guard_hyp g6); intro g6 w hS) | fail) | fail)
                rw [mid_set HW.out.2.2.1, show ys.length + 1 = (ys ++ [k]).length by simp] at hS
                go_roundw
                case measure => simp [intOf]; omega
                exact ⟨j + 1, cl1, L1, ys ++ [k], by omega, by simp; omega, ⟨by simpa using hL1, hM1⟩, by go_num, Lib.hid (by rw [HF.out, HY.out]), hS.re⟩
              | false =>
                rw [hb] at hmg HF
                rw [if_neg (by simp), List.append_nil] at HF
                go_wp2_with (first | (refine oK ?_; refine sK3 hS rfl rfl rfl ?_; rw [hmg]) | (refine oL ?_; (first | refine sL1 hS rfl rfl rfl ?_ | refine sL2 hS rfl rfl rfl ?_ | refine sL3 hS rfl rfl ?_ | refine sL4 hS rfl rfl ?_ | refine sL5 hS rfl rfl ?_ | refine sL6 hS rfl rfl ?_ | refine sL7 hS rfl rfl ?_)) | (refine oS ?_; ((first | refine sS1 hS rfl rfl rfl ?_ | refine sS2 hS rfl rfl rfl ?_ | refine sS3 hS rfl rfl rfl ?_ | refine sS4 hS rfl rfl rfl ?_ | refine sS5 hS rfl rfl rfl ?_); clear hS; intro w hS)) | (refine oK ?_; (first | refine sK1 hS rfl rfl rfl ?_ | refine sK2 hS rfl rfl rfl ?_ | refine sK3 hS rfl rfl rfl ?_)) | (refine oU ?_; (refine sU1 hS rfl rfl rfl rfl ?_; clear hS; intro w hS)) | (skip; (refine sW1 hS rfl ?_; clear hS; first | ((fail_if_success guard_hyp g1); intro g1 w hS) | ((fail_if_success guard_hyp g2); intro g2 w hS) | ((fail_if_success guard_hyp g3); intro g3 w hS) | ((fail_if_success guard_hyp g4); intro g4 w hS) | ((fail_if_success guard_hyp g5); intro g5 w hS) | ((fail_if_success guard_hyp g6); intro g6 w hS) | fail)) | (refine oP ?_; ((first | refine sP1 hS rfl rfl rfl ?_ | refine sP2 hS rfl rfl rfl ?_ | refine sP3 hS rfl rfl rfl ?_); clear hS; first | ((fail_if_success guard_hyp L1); intro L1 cl1 w hL1 hM1 hS) | ((fail_if_success guard_hyp L2); intro L2 cl2 w hL2 hM2 hS) | fail)) | ((first | (refine oB ?_; first | refine sB1 hS rfl rfl ?_ | refine sB2 hS rfl rfl ?_) | (refine oC ?_; first | refine sC0 hS rfl ?_ | refine sC1 hS rfl rfl ?_ | refine sC2 hS rfl rfl ?_ | refine sC3 hS rfl rfl rfl ?_ | refine sC4 hS rfl rfl rfl ?_) | refine sM1 hS rfl rfl rfl ?_); clear hS; first | ((fail_if_success guard_hyp g1); intro g1 w hS) | ((fail_if_success guard_hyp g2); intro g2 w hS) | ((fail_if_success guard_hyp g3); intro g3 w hS) | ((fail_if_success guard_hyp g4); intro g4 w hS) | ((fail_if_success guard_hyp g5); intro g5 w hS) | ((fail_if_success guard_hyp g6); intro g6 w hS) | fail) | fail)
                go_roundw
                case measure => simp [intOf]; omega
                exact ⟨j + 1, c, L, ys, by omega, by omega, hcc, by go_num, Lib.hid (by rw [HF.out, HY.out]), hS.re⟩
            · have hjl' : ¬ (j : Int) < l.length := by omega
              have HE2 := Lib.hid (show ys = needRow p q by
                have h1 := HY.out
                rw [List.take_of_length_le (by omega)] at h1
                rw [h1, HNR.out])
              go_wp2_with (first | (refine oL ?_; (first | refine sL1 hS rfl rfl rfl ?_ | refine sL2 hS rfl rfl rfl ?_ | refine sL3 hS rfl rfl ?_ | refine sL4 hS rfl rfl ?_ | refine sL5 hS rfl rfl ?_ | refine sL6 hS rfl rfl ?_ | refine sL7 hS rfl rfl ?_)) | (refine oS ?_; ((first | refine sS1 hS rfl rfl rfl ?_ | refine sS2 hS rfl rfl rfl ?_ | refine sS3 hS rfl rfl rfl ?_ | refine sS4 hS rfl rfl rfl ?_ | refine sS5 hS rfl rfl rfl ?_); clear hS; intro w hS)) | (refine oK ?_; (first | refine sK1 hS rfl rfl rfl ?_ | refine sK2 hS rfl rfl rfl ?_ | refine sK3 hS rfl rfl rfl ?_)) | (refine oU ?_; (refine sU1 hS rfl rfl rfl rfl ?_; clear hS; intro w hS)) | (skip; (refine sW1 hS rfl ?_; clear hS; first | ((fail_if_success guard_hyp g1); intro g1 w hS) | ((fail_if_success guard_hyp g2); intro g2 w hS) | ((fail_if_success guard_hyp g3); intro g3 w hS) | ((fail_if_success guard_hyp g4); intro g4 w hS) | ((fail_if_success guard_hyp g5); intro g5 w hS) | ((fail_if_success guard_hyp g6); intro g6 w hS) | fail)) | (refine oP ?_; ((first | refine sP1 hS rfl rfl rfl ?_ | refine sP2 hS rfl rfl rfl ?_ | refine sP3 hS rfl rfl rfl ?_); clear hS; first | ((fail_if_success guard_hyp L1); intro L1 cl1 w hL1 hM1 hS) | ((fail_if_success guard_hyp L2); intro L2 cl2 w hL2 hM2 hS) | fail)) | ((first | (refine oB ?_; first | refine sB1 hS rfl rfl ?_ | refine sB2 hS rfl rfl ?_) | (refine oC ?_; first | refine sC0 hS rfl ?_ | refine sC1 hS rfl rfl ?_ | refine sC2 hS rfl rfl ?_ | refine sC3 hS rfl rfl rfl ?_ | refine sC4 hS rfl rfl rfl ?_) | refine sM1 hS rfl rfl rfl ?_); clear hS; first | ((fail_if_success guard_hyp g1); intro g1 w hS) | ((fail_if_success guard_hyp g2); intro g2 w hS) | ((fail_if_success guard_hyp g3); intro g3 w hS) | ((fail_if_success guard_hyp g4); intro g4 w hS) | ((fail_if_success guard_hyp g5); intro g5 w hS) | ((fail_if_success guard_hyp g6); intro g6 w hS) | fail) | fail)
              obtain ⟨T2, hS2, hi2, hr2⟩ := St.rowInN hS HW.out.2.1 rfl hcc
              go_roundw
              case measure => simp [intOf]; omega
              rw [show vs1 ++ Value.slice L ys.length c :: List.replicate (p.ck.length - (q + 1)) nilS = (vs1 ++ [.slice L ys.length c]) ++ List.replicate (p.ck.length - (q + 1)) nilS by simp] at hS2
              exact ⟨q + 1, vs1 ++ [.slice L ys.length c], T2, _, by omega, by go_num, Lib.hid ⟨HW.out.1.into hi2, by rw [HTK.out, ← HE2.out]; exact hr2, by simp [HW.out.2.2.1], HW.out.2.2.2.then hi2⟩, hS2⟩
        · have HE3 := Lib.hid (show q = p.len.length by omega)
          have hql' : ¬ (q : Int) < p.ck.length := by omega
          go_wp2_with (first | (refine oL ?_; (first | refine sL1 hS rfl rfl rfl ?_ | refine sL2 hS rfl rfl rfl ?_ | refine sL3 hS rfl rfl ?_ | refine sL4 hS rfl rfl ?_ | refine sL5 hS rfl rfl ?_ | refine sL6 hS rfl rfl ?_ | refine sL7 hS rfl rfl ?_)) | (refine oS ?_; ((first | refine sS1 hS rfl rfl rfl ?_ | refine sS2 hS rfl rfl rfl ?_ | refine sS3 hS rfl rfl rfl ?_ | refine sS4 hS rfl rfl rfl ?_ | refine sS5 hS rfl rfl rfl ?_); clear hS; intro w hS)) | (refine oK ?_; (first | refine sK1 hS rfl rfl rfl ?_ | refine sK2 hS rfl rfl rfl ?_ | refine sK3 hS rfl rfl rfl ?_)) | (refine oU ?_; (refine sU1 hS rfl rfl rfl rfl ?_; clear hS; intro w hS)) | (skip; (refine sW1 hS rfl ?_; clear hS; first | ((fail_if_success guard_hyp g1); intro g1 w hS) | ((fail_if_success guard_hyp g2); intro g2 w hS) | ((fail_if_success guard_hyp g3); intro g3 w hS) | ((fail_if_success guard_hyp g4); intro g4 w hS) | ((fail_if_success guard_hyp g5); intro g5 w hS) | ((fail_if_success guard_hyp g6); intro g6 w hS) | fail)) | (refine oP ?_; ((first | refine sP1 hS rfl rfl rfl ?_ | refine sP2 hS rfl rfl rfl ?_ | refine sP3 hS rfl rfl rfl ?_); clear hS; first | ((fail_if_success guard_hyp L1); intro L1 cl1 w hL1 hM1 hS) | ((fail_if_success guard_hyp L2); intro L2 cl2 w hL2 hM2 hS) | fail)) | ((first | (refine oB ?_; first | refine sB1 hS rfl rfl ?_ | refine sB2 hS rfl rfl ?_) | (refine oC ?_; first | refine sC0 hS rfl ?_ | refine sC1 hS rfl rfl ?_ | refine sC2 hS rfl rfl ?_ | refine sC3 hS rfl rfl rfl ?_ | refine sC4 hS rfl rfl rfl ?_) | refine sM1 hS rfl rfl rfl ?_); clear hS; first | ((fail_if_success guard_hyp g1); intro g1 w hS) | ((fail_if_success guard_hyp g2); intro g2 w hS) | ((fail_if_success guard_hyp g3); intro g3 w hS) | ((fail_if_success guard_hyp g4); intro g4 w hS) | ((fail_if_success guard_hyp g5); intro g5 w hS) | ((fail_if_success guard_hyp g6); intro g6 w hS) | fail) | fail)
          go_ret
          rw [show p.ck.length - q = 0 by omega, List.replicate_zero, List.append_nil] at hS
          have hr := HW.out.2.1
          rw [List.take_of_length_le (by rw [needL_len]; omega)] at hr
          have hrr : RR (Orn S w0) wr (some ⟨g4, 0, none⟩) (needL p) := ⟨vs1, hS.rvF, hr.mono (repRow.into hS.ornF)⟩
          exact ⟨_, p.ck.length, by rw [needL_len, ← HCKL.out]; rfl, by rw [needL_len]; omega, by omega, hrr, hS.extF (HW.out.2.2.2.then hS.frozInto)⟩
end Go.Proofs.Ytombhhhaidmpeaa
