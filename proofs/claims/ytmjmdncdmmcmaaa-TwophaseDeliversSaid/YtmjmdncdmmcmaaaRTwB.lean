/- rollbacknetref24.Begin. Conditions: the pattern is a good one and lies in memory, the root is one of its processes. -/
import Derived.Test.YtmjmdncdmmcmaaaRTwV
import Derived.Test.YtmjmdncdmmcmaaaMakers
import Derived.Test.YtmjmdncdmmcmaaaGj
import Derived.Test.YtmjmdncdmmcmaaaGf
import Derived.Deep.DeepCutAuto
namespace Go.Proofs.Ytmjmdncdmmcmaaa
open Go.RowKit Tph
set_option linter.unusedVariables false
set_option linter.unusedSimpArgs false
set_option linter.unusedSectionVars false

theorem unwOf_in {n z : Nat} {us : List Int} {i : Nat} (hi : i < us.length) (hz : us[i] = (z : Int)) (hn : z < n) : (unwOf n (us.take i)).set z true = unwOf n (us.take (i + 1)) := by
  apply List.ext_getElem (by simp [unwOf])
  intro j h1 h2
  rw [List.getElem_set]
  simp only [unwOf, List.getElem_map, List.getElem_range]
  rw [List.take_succ_eq_append_getElem hi, hz]
  by_cases e : z = j
  · subst e; simp
  · have : ¬ (j : Int) = (z : Int) := by omega
    simp [e, this]
theorem unwOf_out {n : Nat} {us : List Int} {i : Nat} (hi : i < us.length) (hz : us[i] < 0 ∨ (n : Int) ≤ us[i]) : unwOf n (us.take (i + 1)) = unwOf n (us.take i) := by
  unfold unwOf
  apply List.map_congr_left
  intro q hq
  have hq2 := List.mem_range.1 hq
  have hne : ¬ (q : Int) = us[i] := by omega
  apply decide_eq_decide.2
  rw [List.take_succ_eq_append_getElem hi, List.mem_append, List.mem_singleton]
  exact ⟨fun h => h.elim id (fun h => absurd h hne), .inl⟩
theorem unwOf_nil (n : Nat) : unwOf n [] = List.replicate n false := by
  apply List.ext_getElem (by simp [unwOf])
  intro j h1 h2
  simp [unwOf]
/-- the piece of a new variable -/
def ptrT {w0 : World} {M : Nat → Prop} (us : List Value) (t : TypeId) : Value → Chunk w0 M
  | .pointer (some p) => blk p.block us t
  | _ => nop
theorem own_rvT {w0 w : World} {M : Nat → Prop} {cs : List (Chunk w0 M)} {T : Nat → Prop} {e : TypeId} {A : Option Addr} {k c n sz : Nat} {vs : List Value} (h : St w0 M cs w) (hm : row (.slice A k c) e sz n vs ∈ cs) (hT : ∀ b, (row (w0 := w0) (M := M) (.slice A k c) e sz n vs).own b → T b) : RV T w A vs :=
  (own_rv (h.all _ hm)).sub (fun b hb => hT b hb)
theorem freezeT {w0 w u : World} {M T : Nat → Prop} {cs : List (Chunk w0 M)} {UA PA EA WA RA0 CA DA : Option Addr} {uc pc ec wc rc cc dc n : Nat} {unw tent ref : List Bool} {par aw dec : List Int} {cvs : List Value} {e1 e2 e3 : TypeId} (h : St w0 M (froz T u :: row (.slice UA n uc) e1 1 n (bools unw) :: row (.slice PA n pc) e2 1 n (ints par) :: row (.slice EA n ec) e1 1 n (bools tent) :: row (.slice WA n wc) e2 1 n (ints aw) :: row (.slice RA0 n rc) e1 1 n (bools ref) :: row (.slice CA n cc) e3 1 n cvs :: row (.slice DA n dc) e2 1 n (ints dec) :: cs) w) :
    ∃ T' : Nat → Prop, St w0 M (froz T' w :: cs) w ∧ Into T T' u w ∧ RV T' w UA (bools unw) ∧ RI T' w PA par ∧ RV T' w EA (bools tent) ∧ RI T' w WA aw ∧ RV T' w RA0 (bools ref) ∧ RV T' w CA cvs ∧ RI T' w DA dec := by
  have hi : Into T T u w := h.frozInto
  refine ⟨_, h.freezeN 8, hi.widen (fun k hk => ⟨_, .head _, hk⟩), own_rvT h (.tail _ (.head _)) (fun b hb => ⟨_, .tail _ (.head _), hb⟩), own_rvT h (.tail _ (.tail _ (.head _))) (fun b hb => ⟨_, .tail _ (.tail _ (.head _)), hb⟩), own_rvT h (.tail _ (.tail _ (.tail _ (.head _)))) (fun b hb => ⟨_, .tail _ (.tail _ (.tail _ (.head _))), hb⟩), own_rvT h (.tail _ (.tail _ (.tail _ (.tail _ (.head _))))) (fun b hb => ⟨_, .tail _ (.tail _ (.tail _ (.tail _ (.head _)))), hb⟩), own_rvT h (.tail _ (.tail _ (.tail _ (.tail _ (.tail _ (.head _)))))) (fun b hb => ⟨_, .tail _ (.tail _ (.tail _ (.tail _ (.tail _ (.head _))))), hb⟩), own_rvT h (.tail _ (.tail _ (.tail _ (.tail _ (.tail _ (.tail _ (.head _))))))) (fun b hb => ⟨_, .tail _ (.tail _ (.tail _ (.tail _ (.tail _ (.tail _ (.head _)))))), hb⟩), own_rvT h (.tail _ (.tail _ (.tail _ (.tail _ (.tail _ (.tail _ (.tail _ (.head _)))))))) (fun b hb => ⟨_, .tail _ (.tail _ (.tail _ (.tail _ (.tail _ (.tail _ (.tail _ (.head _))))))), hb⟩)⟩
set_option maxRecDepth 100000 in
set_option maxHeartbeats 6400000 in
theorem rbegin_any {S : Nat → Prop} (A1 : Option Addr) (c1 : Nat) (A2 : Option Addr) (c2 : Nat) (A3 : Option Addr) (c3 : Nat) (p : Pat) (n r : Nat) (UU : Option Addr) (un cu : Nat) (us : List Int) (w0 : World) (hp : PatAt S w0 ⟨A1, c1, A2, c2, A3, c3⟩ p) (hg : Good p) (hn : p.len.length = n) (hr : r < n) (hus : RI S w0 UU us) (hul : us.length = un) (hub : un ≤ 100000) :
    Calls Try.prog 33 #[.agg #[.slice A1 p.len.length c1, .slice A2 p.ck.length c2, .slice A3 p.arcs.length c3], .int .i64 (r : Int), .slice UU un cu] w0 (RetT S w0 p n (begT p r us)) := by
  subst hn
  have hS := St.startF w0 S
  have hn5 := hg.n5
  have HP := Lib.hid (And.intro hp.hereT hg)
  have HU := Lib.hid (And.intro (RV.here hus) hul)
  have HUL := Lib.hid (unwOf_len p.len.length us)
  have HR := Lib.hid hr
  clear hp hg hus
  generalize hn : p.len.length = n at *
  have HN := Lib.hid hn
  have d0 : decide ((r : Int) < 0) = false := decide_eq_false (by omega)
  have d1 : decide ((n : Int) ≤ (r : Int)) = false := decide_eq_false (by omega)
  have d1n : decide (n ≤ r) = false := decide_eq_false (by omega)
  have hun1 : un ≤ 1000000 := by omega
  clear hn hr
  obtain ⟨RR, hRR⟩ : ∃ RR : Ending → World → Prop, RR = RetT S w0 p n (begT p r us) := ⟨_, rfl⟩
  rw [← hRR]
  have HRR := Lib.hid hRR
  clear hRR
  go_enter Try.func33, Try.ntmps33
  go_upto_region 1 with ((((first | (refine oB ?_; (refine sB1 hS rfl rfl ?_)) | refine sN1 hS rfl ?_); clear hS; first | ((fail_if_success guard_hyp g1); intro g1 w hS) | ((fail_if_success guard_hyp g2); intro g2 w hS))))
  refine lR ?_
  (refine ⟨?_⟩; (((refine sL2 hS rfl rfl rfl ?_))); refine WL.h ?_)
  (try simp only [Act.put, nA, nB, nC])
  (refine ⟨?_⟩; (refine st_call rfl (by kernel_rfl) rfl ?_; go_at_call 41; rw [← HN.out]; refine (rcheck_any A1 c1 A2 c2 A3 c3 p _ (HP.out.1.into hS.frozInto) HP.out.2).mono ?_; rintro e w ⟨rfl, hx1⟩; replace hS := hS.ext hx1; clear hx1; try rw [HN.out]); refine WL.h ?_)
  (try simp only [Act.put, nA, nB, nC])
  refine lA rfl rfl ?_
  (try simp only [Act.put, nA, nB, nC])
  refine lZ ?_
  go_upto_region 7 with (((refine oL ?_; ((refine sL1 hS rfl rfl rfl ?_)))))
  refine dr_start0 [16]  hS (by kernel_rfl) rfl ?_; clear hS; intro w hS
  (refine dL2 hS 0 rfl rfl rfl rfl ?_)
  (try simp only [Act.put, nA, nB, nC])
  refine dM hS 1 rfl rfl rfl ?_
  (try simp only [Act.put, nA, nB, nC])
  refine dM hS 2 rfl rfl rfl ?_
  (try simp only [Act.put, nA, nB, nC])
  refine dM hS 4 rfl rfl rfl ?_
  (try simp only [Act.put, nA, nB, nC])
  refine dM hS 6 rfl rfl rfl ?_
  (try simp only [Act.put, nA, nB, nC])
  refine dM hS 8 rfl rfl rfl ?_
  (try simp only [Act.put, nA, nB, nC])
  refine dM hS 10 rfl rfl rfl ?_
  (try simp only [Act.put, nA, nB, nC])
  refine dM hS 12 rfl rfl rfl ?_
  (try simp only [Act.put, nA, nB, nC])
  refine dr_makers1 (ds := [33, 35, 37, 39, 41, 43, 10]) (a0 := _) ⟨15, 10, ptrT tp0 55, fun v => ∃ g, v = .pointer (some ⟨g, 0, none⟩)⟩ ?_ (by rfl) 6 [⟨3, 33, fun v => row v 4 1 n (bools (List.replicate n false)), fun v => ∃ g, v = .slice (some ⟨g, 0, none⟩) n n⟩, ⟨5, 35, fun v => row v 4 1 n (bools (List.replicate n false)), fun v => ∃ g, v = .slice (some ⟨g, 0, none⟩) n n⟩, ⟨7, 37, fun v => row v 3 1 n (ints (List.replicate n 0)), fun v => ∃ g, v = .slice (some ⟨g, 0, none⟩) n n⟩, ⟨9, 39, fun v => row v 4 1 n (bools (List.replicate n false)), fun v => ∃ g, v = .slice (some ⟨g, 0, none⟩) n n⟩, ⟨11, 41, fun v => row v 25 1 n (List.replicate n (.slice none 0 0)), fun v => ∃ g, v = .slice (some ⟨g, 0, none⟩) n n⟩, ⟨13, 43, fun v => row v 3 1 n (ints (List.replicate n 0)), fun v => ∃ g, v = .slice (some ⟨g, 0, none⟩) n n⟩] rfl _ _ _ _ (MkrsOk.mk' ?_ (by kernel_rfl) (by kernel_rfl) (by simp) (by simp) (by kernel_rfl)) (List.contains_iff_mem.1 (by kernel_rfl)) ?_ (fun _ _ => rfl) hS (fun c hc => hc) ?_ ?_
  · exact ⟨_, rfl, fun cs a w K hL hS k => sN1 hS rfl (fun g w' hS' => wpList_nil (k _ _ ⟨g, rfl⟩ hS'))⟩
  · intro m hm
    simp only [List.mem_cons, List.not_mem_nil, or_false] at hm
    rcases hm with rfl | rfl | rfl | rfl | rfl | rfl
    · exact ⟨_, rfl, fun cs a w K hL hS k => sMW hS rfl (hL.oval rfl rfl) (hL.oval rfl rfl) rfl rfl (by omega) (fun g w' hS' => wpList_nil (k _ _ ⟨g, rfl⟩ (by rw [boolsR]; exact hS')))⟩
    · exact ⟨_, rfl, fun cs a w K hL hS k => sMW hS rfl (hL.oval rfl rfl) (hL.oval rfl rfl) rfl rfl (by omega) (fun g w' hS' => wpList_nil (k _ _ ⟨g, rfl⟩ (by rw [boolsR]; exact hS')))⟩
    · exact ⟨_, rfl, fun cs a w K hL hS k => sMW hS rfl (hL.oval rfl rfl) (hL.oval rfl rfl) rfl rfl (by omega) (fun g w' hS' => wpList_nil (k _ _ ⟨g, rfl⟩ (by rw [ints_replicate]; exact hS')))⟩
    · exact ⟨_, rfl, fun cs a w K hL hS k => sMW hS rfl (hL.oval rfl rfl) (hL.oval rfl rfl) rfl rfl (by omega) (fun g w' hS' => wpList_nil (k _ _ ⟨g, rfl⟩ (by rw [boolsR]; exact hS')))⟩
    · exact ⟨_, rfl, fun cs a w K hL hS k => sMW hS rfl (hL.oval rfl rfl) (hL.oval rfl rfl) rfl rfl (by omega) (fun g w' hS' => wpList_nil (k _ _ ⟨g, rfl⟩ hS'))⟩
    · exact ⟨_, rfl, fun cs a w K hL hS k => sMW hS rfl (hL.oval rfl rfl) (hL.oval rfl rfl) rfl rfl (by omega) (fun g w' hS' => wpList_nil (k _ _ ⟨g, rfl⟩ (by rw [ints_replicate]; exact hS')))⟩
  · intro m hm
    simp only [List.mem_cons, List.not_mem_nil, or_false] at hm
    rcases hm with rfl | rfl | rfl | rfl | rfl | rfl <;> simp
  · intro us7 w' hus7 hS'
    skip
    match us7, hus7 with
    | [_, _, _, _, _, _], ⟨⟨q1, rfl⟩, ⟨q3, rfl⟩, ⟨q4, rfl⟩, ⟨q5, rfl⟩, ⟨q6, rfl⟩, ⟨q7, rfl⟩, _⟩ =>
    simp only [pczM, lstM, putsM, ptrT, List.cons_append, List.nil_append] at hS' ⊢
    (try simp only [Act.put, nA, nB, nC])
    clear hS
    have hS := hS'
    clear hS'
    refine dP hS 14 rfl rfl ?_
    (try simp only [Act.put, nA, nB, nC])
    refine dr_one 15 (by kernel_rfl) rfl ?_
    (refine sN1 hS rfl ?_; clear hS; first | ((fail_if_success guard_hyp g1); intro g1 w hS) | ((fail_if_success guard_hyp g2); intro g2 w hS) | ((fail_if_success guard_hyp g3); intro g3 w hS) | ((fail_if_success guard_hyp g4); intro g4 w hS) | ((fail_if_success guard_hyp g5); intro g5 w hS) | ((fail_if_success guard_hyp g6); intro g6 w hS) | ((fail_if_success guard_hyp g7); intro g7 w hS) | ((fail_if_success guard_hyp g8); intro g8 w hS) | ((fail_if_success guard_hyp g9); intro g9 w hS) | ((fail_if_success guard_hyp g10); intro g10 w hS) | ((fail_if_success guard_hyp g11); intro g11 w hS) | fail)
    (try simp only [Act.put, nA, nB, nC])
    refine dr_end hS ?_
    refine dr_one 16 (by kernel_rfl) rfl ?_
    (((refine sS4 hS rfl rfl rfl ?_)); clear hS; intro w hS)
    (try simp only [Act.put, nA, nB, nC])
    refine dr_late (by kernel_rfl) ?_
    refine dr_done (by kernel_rfl) ?_
    (try simp only [Act.put, nA, nB, nC])
    obtain ⟨gB, rfl⟩ : ∃ gB0, gB0 = g3 := ⟨_, rfl⟩
    go_wp2_with (fail)
    go_loopw [11] (fun s11 wr => ∃ (q : Nat) (K : Option Addr) (ck : Nat), q ≤ n ∧ s11 = .int .i64 q ∧ St w0 (fun k => S k ∧ k < w0.heap.size) (froz (fun k => S k ∧ k < w0.heap.size) w0 :: blk gB [.slice A1 n c1, .slice A2 p.ck.length c2, .slice A3 p.arcs.length c3, .int .i64 (r : Int), .slice (some ⟨q1, 0, none⟩) n n, .slice K q ck, .slice (some ⟨q3, 0, none⟩) n n, .slice (some ⟨q4, 0, none⟩) n n, .slice (some ⟨q5, 0, none⟩) n n, .slice (some ⟨q6, 0, none⟩) n n, .slice (some ⟨q7, 0, none⟩) n n, .slice none 0 0] 55 :: row (.slice (some ⟨q1, 0, none⟩) n n) 4 1 n (bools (unwOf n [])) :: row (.slice K q ck) 3 1 q (ints (List.replicate q (-1))) :: row (.slice (some ⟨q3, 0, none⟩) n n) 4 1 n (bools (List.replicate n false)) :: row (.slice (some ⟨q4, 0, none⟩) n n) 3 1 n (ints (List.replicate n 0)) :: row (.slice (some ⟨q5, 0, none⟩) n n) 4 1 n (bools (List.replicate n false)) :: row (.slice (some ⟨q6, 0, none⟩) n n) 25 1 n (List.replicate n (.slice none 0 0)) :: row (.slice (some ⟨q7, 0, none⟩) n n) 3 1 n (ints (List.replicate n 0)) :: blk g2 tp0 55 :: []) wr) (fun s11 _ => n - (intOf s11).toNat)
    case atStart =>
      have hS2 : St w0 (fun k => S k ∧ k < w0.heap.size) (row (.slice none 0 0) 3 1 0 (ints (List.replicate 0 (-1))) :: _) _ := hS.addNil 3 1
      exact ⟨0, none, 0, by omega, rfl, by rw [unwOf_nil]; exact hS2.re⟩
    case round =>
      clear hS
      obtain ⟨q, K, ck, hq, rfl, hS⟩ := hrel
      by_cases hlt : q < n
      · have hlt' : (q : Int) < (n : Int) := by omega
        have HRP := Lib.hid (show ints (List.replicate (q + 1) (-1)) = ints (List.replicate q (-1)) ++ [.int .i64 (-1)] by rw [List.replicate_succ']; simp [ints])
        go_wp2_with (first | (refine oL ?_; ((refine sL1 hS rfl rfl rfl ?_))) | (refine oS ?_; (((refine sS1 hS rfl rfl rfl ?_)); clear hS; intro w hS)) | (refine oP ?_; (((refine sP2 hS rfl rfl rfl ?_)); clear hS; (((fail_if_success guard_hyp L1); intro L1 cl1 w hL1 hM1 hS)))) | ((((refine oC ?_; (refine sC1 hS rfl rfl ?_)))); clear hS; (((fail_if_success guard_hyp g3); intro g3 w hS))))
        go_roundw
        case measure => simp [intOf]; try omega
        (try simp only [List.set_cons_zero, List.set_cons_succ] at hS)
        exact ⟨q + 1, L1, cl1, by omega, by go_num, by rw [HRP.out]; exact hS.re⟩
      · have hlt' : ¬ (q : Int) < (n : Int) := by omega
        obtain rfl : q = n := by omega
        go_wp2_with (fail)
        go_loopw [12] (fun s12 wr => ∃ i : Nat, i ≤ un ∧ s12 = .int .i64 i ∧ St w0 (fun k => S k ∧ k < w0.heap.size) (froz (fun k => S k ∧ k < w0.heap.size) w0 :: blk gB [.slice A1 q c1, .slice A2 p.ck.length c2, .slice A3 p.arcs.length c3, .int .i64 (r : Int), .slice (some ⟨q1, 0, none⟩) q q, .slice K q ck, .slice (some ⟨q3, 0, none⟩) q q, .slice (some ⟨q4, 0, none⟩) q q, .slice (some ⟨q5, 0, none⟩) q q, .slice (some ⟨q6, 0, none⟩) q q, .slice (some ⟨q7, 0, none⟩) q q, .slice none 0 0] 55 :: row (.slice (some ⟨q1, 0, none⟩) q q) 4 1 q (bools (unwOf q (us.take i))) :: row (.slice K q ck) 3 1 q (ints (List.replicate q (-1))) :: row (.slice (some ⟨q3, 0, none⟩) q q) 4 1 q (bools (List.replicate q false)) :: row (.slice (some ⟨q4, 0, none⟩) q q) 3 1 q (ints (List.replicate q 0)) :: row (.slice (some ⟨q5, 0, none⟩) q q) 4 1 q (bools (List.replicate q false)) :: row (.slice (some ⟨q6, 0, none⟩) q q) 25 1 q (List.replicate q (.slice none 0 0)) :: row (.slice (some ⟨q7, 0, none⟩) q q) 3 1 q (ints (List.replicate q 0)) :: blk g2 tp0 55 :: []) wr) (fun s12 _ => un - (intOf s12).toNat)
        case atStart => exact ⟨0, by omega, rfl, by rw [List.take_zero]; exact hS.re⟩
        case round =>
          clear hS
          obtain ⟨i, hi, rfl, hS⟩ := hrel
          by_cases hil : i < un
          · have hil' : (i : Int) < (un : Int) := by omega
            have hiu : i < us.length := by omega
            obtain ⟨bU, oU, rfl, hfc⟩ := (show RI (fun k => S k ∧ k < w0.heap.size) w0 UU us from HU.out.1).fc (k := i) hiu
            have HX := Lib.hid (nth_eq hiu)
            have HUO := Lib.hid (fun h => unwOf_out (n := q) hiu h)
            have HUI := Lib.hid (fun z h1 h2 => unwOf_in (n := q) (z := z) hiu h1 h2)
            rw [← HX.out] at HUO HUI
            generalize nth us i = z at *
            by_cases hz0 : z < 0
            · have d2 : decide (0 ≤ z) = false := decide_eq_false (by omega)
              have HE := Lib.hid (HUO.out (.inl hz0))
              clear hz0
              go_upto_region 15 with (fail)
              refine lR ?_
              refine lM rfl rfl ?_
              (try simp only [Act.put, nA, nB, nC])
              refine lM rfl rfl ?_
              (try simp only [Act.put, nA, nB, nC])
              refine lP rfl ?_
              (try simp only [Act.put, nA, nB, nC])
              (refine ⟨?_⟩; (((refine sL7 hS rfl rfl ?_))); refine WL.h ?_)
              (try simp only [Act.put, nA, nB, nC])
              refine lP rfl ?_
              (try simp only [Act.put, nA, nB, nC])
              refine lM rfl rfl ?_
              (try simp only [Act.put, nA, nB, nC])
              first | refine lQ rfl ?_ | refine lM rfl rfl ?_ | fail
              (try simp only [Act.put, nA, nB, nC])
              first | refine lQ rfl ?_ | refine lM rfl rfl ?_ | fail
              (try simp only [Act.put, nA, nB, nC])
              first | refine lQ rfl ?_ | refine lP rfl ?_ | fail
              (try simp only [Act.put, nA, nB, nC])
              (refine lQ rfl ?_)
              (try simp only [Act.put, nA, nB, nC])
              first | refine lQ rfl ?_ | refine lM rfl rfl ?_ | fail
              (try simp only [Act.put, nA, nB, nC])
              first | refine lQ rfl ?_ | refine lP rfl ?_ | fail
              (try simp only [Act.put, nA, nB, nC])
              refine lP rfl ?_
              (try simp only [Act.put, nA, nB, nC])
              refine lZ ?_
              go_wp2_with (fail)
              go_roundw
              case measure => simp [intOf]; try omega
              exact ⟨i + 1, by omega, by go_num, by rw [HE.out]; exact hS.re⟩
            · have d2 : decide (0 ≤ z) = true := decide_eq_true (by omega)
              by_cases hzn : z < (q : Int)
              · obtain ⟨zk, rfl⟩ : ∃ zk : Nat, z = zk := ⟨z.toNat, by omega⟩
                have hzk : zk < (unwOf q (us.take i)).length := by rw [unwOf_len]; omega
                have HE := Lib.hid (HUI.out zk rfl (by omega))
                have d3 : decide ((zk : Int) < (q : Int)) = true := decide_eq_true hzn
                have d3n : decide (zk < q) = true := decide_eq_true (by omega)
                clear hz0
                go_upto_region 15 with (fail)
                refine lR ?_
                refine lM rfl rfl ?_
                (try simp only [Act.put, nA, nB, nC])
                refine lM rfl rfl ?_
                (try simp only [Act.put, nA, nB, nC])
                refine lP rfl ?_
                (try simp only [Act.put, nA, nB, nC])
                (refine ⟨?_⟩; (((refine sL7 hS rfl rfl ?_))); refine WL.h ?_)
                (try simp only [Act.put, nA, nB, nC])
                refine lP rfl ?_
                (try simp only [Act.put, nA, nB, nC])
                refine lM rfl rfl ?_
                (try simp only [Act.put, nA, nB, nC])
                first | refine lQ rfl ?_ | refine lM rfl rfl ?_ | fail
                (try simp only [Act.put, nA, nB, nC])
                first | refine lQ rfl ?_ | refine lM rfl rfl ?_ | fail
                (try simp only [Act.put, nA, nB, nC])
                first | refine lQ rfl ?_ | refine lP rfl ?_ | fail
                (try simp only [Act.put, nA, nB, nC])
                ((refine ⟨?_⟩; (((refine sL7 hS rfl rfl ?_))); refine WL.h ?_))
                (try simp only [Act.put, nA, nB, nC])
                first | refine lQ rfl ?_ | refine lM rfl rfl ?_ | fail
                (try simp only [Act.put, nA, nB, nC])
                first | refine lQ rfl ?_ | refine lP rfl ?_ | fail
                (try simp only [Act.put, nA, nB, nC])
                refine lP rfl ?_
                (try simp only [Act.put, nA, nB, nC])
                refine lZ ?_
                go_upto_region 16 with (fail)
                refine dr_start0 [7]  hS (by kernel_rfl) rfl ?_; clear hS; intro w hS
                refine dP hS 0 rfl rfl ?_
                (try simp only [Act.put, nA, nB, nC])
                (refine dL1 hS 1 rfl rfl rfl rfl ?_)
                (try simp only [Act.put, nA, nB, nC])
                refine dM hS 2 rfl rfl rfl ?_
                (try simp only [Act.put, nA, nB, nC])
                refine dM hS 3 rfl rfl rfl ?_
                (try simp only [Act.put, nA, nB, nC])
                refine dP hS 4 rfl rfl ?_
                (try simp only [Act.put, nA, nB, nC])
                (refine dL7 hS 5 rfl rfl rfl ?_)
                (try simp only [Act.put, nA, nB, nC])
                refine dP hS 6 rfl rfl ?_
                (try simp only [Act.put, nA, nB, nC])
                refine dr_one 7 (by kernel_rfl) rfl ?_
                first | (refine sS6 hS rfl rfl rfl hzk ?_; clear hS; intro w hS) | ((first | refine sS1 hS rfl rfl rfl ?_ | refine sS2 hS rfl rfl rfl ?_ | refine sS3 hS rfl rfl rfl ?_ | refine sS4 hS rfl rfl rfl ?_ | refine sS5 hS rfl rfl rfl ?_); clear hS; intro w hS) | fail
                (try simp only [Act.put, nA, nB, nC])
                refine dr_late (by kernel_rfl) ?_
                refine dr_done (by kernel_rfl) ?_
                go_wp2_with (fail)
                go_roundw
                case measure => simp [intOf]; try omega
                exact ⟨i + 1, by omega, by go_num, by rw [← HE.out]; exact hS.re⟩
              · have d3 : decide (z < (q : Int)) = false := decide_eq_false hzn
                have HE := Lib.hid (HUO.out (.inr (by omega)))
                clear hz0 hzn
                go_upto_region 15 with (fail)
                refine lR ?_
                refine lM rfl rfl ?_
                (try simp only [Act.put, nA, nB, nC])
                refine lM rfl rfl ?_
                (try simp only [Act.put, nA, nB, nC])
                refine lP rfl ?_
                (try simp only [Act.put, nA, nB, nC])
                (refine ⟨?_⟩; (((refine sL7 hS rfl rfl ?_))); refine WL.h ?_)
                (try simp only [Act.put, nA, nB, nC])
                refine lP rfl ?_
                (try simp only [Act.put, nA, nB, nC])
                refine lM rfl rfl ?_
                (try simp only [Act.put, nA, nB, nC])
                first | refine lQ rfl ?_ | refine lM rfl rfl ?_ | fail
                (try simp only [Act.put, nA, nB, nC])
                first | refine lQ rfl ?_ | refine lM rfl rfl ?_ | fail
                (try simp only [Act.put, nA, nB, nC])
                first | refine lQ rfl ?_ | refine lP rfl ?_ | fail
                (try simp only [Act.put, nA, nB, nC])
                ((refine ⟨?_⟩; (((refine sL7 hS rfl rfl ?_))); refine WL.h ?_))
                (try simp only [Act.put, nA, nB, nC])
                first | refine lQ rfl ?_ | refine lM rfl rfl ?_ | fail
                (try simp only [Act.put, nA, nB, nC])
                first | refine lQ rfl ?_ | refine lP rfl ?_ | fail
                (try simp only [Act.put, nA, nB, nC])
                refine lP rfl ?_
                (try simp only [Act.put, nA, nB, nC])
                refine lZ ?_
                go_wp2_with (fail)
                go_roundw
                case measure => simp [intOf]; try omega
                exact ⟨i + 1, by omega, by go_num, by rw [HE.out]; exact hS.re⟩
          · have hil' : ¬ (i : Int) < (un : Int) := by omega
            rw [List.take_of_length_le (by omega)] at hS
            go_upto_region 17 with (fail)
            obtain ⟨T, hS2, hi0, u1, u2, u3, u4, u5, u6, u7⟩ := freezeT (hS.re (ds := froz (fun k => S k ∧ k < w0.heap.size) w0 :: row (.slice (some ⟨q1, 0, none⟩) q q) 4 1 q (bools (unwOf q us)) :: row (.slice K q ck) 3 1 q (ints (List.replicate q (-1))) :: row (.slice (some ⟨q3, 0, none⟩) q q) 4 1 q (bools (List.replicate q false)) :: row (.slice (some ⟨q4, 0, none⟩) q q) 3 1 q (ints (List.replicate q 0)) :: row (.slice (some ⟨q5, 0, none⟩) q q) 4 1 q (bools (List.replicate q false)) :: row (.slice (some ⟨q6, 0, none⟩) q q) 25 1 q (List.replicate q (.slice none 0 0)) :: row (.slice (some ⟨q7, 0, none⟩) q q) 3 1 q (ints (List.replicate q 0)) :: blk gB [.slice A1 q c1, .slice A2 p.ck.length c2, .slice A3 p.arcs.length c3, .int .i64 (r : Int), .slice (some ⟨q1, 0, none⟩) q q, .slice K q ck, .slice (some ⟨q3, 0, none⟩) q q, .slice (some ⟨q4, 0, none⟩) q q, .slice (some ⟨q5, 0, none⟩) q q, .slice (some ⟨q6, 0, none⟩) q q, .slice (some ⟨q7, 0, none⟩) q q, .slice none 0 0] 55 :: blk g2 tp0 55 :: []))
            clear hS
            have hS := hS2
            clear hS2
            have HI := Lib.hid hi0
            have HTP := Lib.hid (show TpAt T _ ⟨A1, c1, A2, c2, A3, c3, some ⟨q1, 0, none⟩, q, K, ck, some ⟨q3, 0, none⟩, q, some ⟨q4, 0, none⟩, q, some ⟨q5, 0, none⟩, q, some ⟨q6, 0, none⟩, q, some ⟨q7, 0, none⟩, q, none, 0⟩ p (TS.new q r (unwOf q us)) from ⟨HP.out.1.into hi0, u1, u2, u3, u4, u5, ⟨_, u6, by rw [show (TS.new q r (unwOf q us)).ch = List.replicate q [] from rfl, natsR]; exact Rw2.rep _ (ReV.nil _ _)⟩, u7, RV.nil_ _ _ _, ⟨fun _ => ⟨rfl, rfl⟩, (fun a h => by cases h), Nat.le_refl _, by simp⟩⟩)
            clear hi0 u1 u2 u3 u4 u5 u6 u7
            have hq0 : 0 < q := Nat.lt_of_le_of_lt (Nat.zero_le _) HR.out
            have hqe := HN.out
            subst hqe
            go_wp2_with (first | (go_at_call 63; refine (rcopy_st A1 c1 A2 c2 A3 c3 (some ⟨q1, 0, none⟩) p.len.length K ck (some ⟨q3, 0, none⟩) p.len.length (some ⟨q4, 0, none⟩) p.len.length (some ⟨q5, 0, none⟩) p.len.length (some ⟨q6, 0, none⟩) p.len.length (some ⟨q7, 0, none⟩) p.len.length none 0 p r (unwOf p.len.length us) (List.replicate p.len.length (-1)) (List.replicate p.len.length false) (List.replicate p.len.length 0) (List.replicate p.len.length false) (List.replicate p.len.length []) (List.replicate p.len.length 0) [] p.len.length 0 hS HTP.out (TsL.new r HUL.out) hn5 rfl (by omega) (fun l hl => by rw [List.eq_of_mem_replicate hl]; exact Nat.zero_le _)).mono ?_; rintro e w2 ⟨Lu, ku, Lp, kp, Lt, kt, La, ka, Lr, kr, Lc, kc, Ld, kd, Lf, kf, rs, rfl, HF, hS2⟩; clear hS; have hS := hS2; clear hS2) | (refine oL ?_; ((refine sL2 hS rfl rfl rfl ?_))) | (refine oS ?_; (((refine sS4 hS rfl rfl rfl ?_)); clear hS; intro w hS)))
            obtain ⟨gu, rfl⟩ := hS.rowSome Lu hq0
            obtain ⟨gp, rfl⟩ := hS.rowSome Lp hq0
            obtain ⟨gt, rfl⟩ := hS.rowSome Lt hq0
            obtain ⟨ga, rfl⟩ := hS.rowSome La hq0
            obtain ⟨gr, rfl⟩ := hS.rowSome Lr hq0
            obtain ⟨gc, rfl⟩ := hS.rowSome Lc hq0
            obtain ⟨gd, rfl⟩ := hS.rowSome Ld hq0
            (try simp only [List.set_cons_zero, List.set_cons_succ] at hS)
            replace hS : St w0 (fun k => S k ∧ k < w0.heap.size) (froz T wr :: blk gB [.slice A1 p.len.length c1, .slice A2 p.ck.length c2, .slice A3 p.arcs.length c3, .int .i64 (r : Int), .slice (some ⟨gu, 0, none⟩) p.len.length ku, .slice (some ⟨gp, 0, none⟩) p.len.length kp, .slice (some ⟨gt, 0, none⟩) p.len.length kt, .slice (some ⟨ga, 0, none⟩) p.len.length ka, .slice (some ⟨gr, 0, none⟩) p.len.length kr, .slice (some ⟨gc, 0, none⟩) p.len.length kc, .slice (some ⟨gd, 0, none⟩) p.len.length kd, .slice Lf 0 kf] 55 :: row (.slice (some ⟨gp, 0, none⟩) p.len.length kp) 3 1 p.len.length (ints (List.replicate p.len.length (-1))) :: row (.slice (some ⟨gt, 0, none⟩) p.len.length kt) 4 1 p.len.length (bools (List.replicate p.len.length false)) :: row (.slice (some ⟨ga, 0, none⟩) p.len.length ka) 3 1 p.len.length (ints (List.replicate p.len.length 0)) :: row (.slice (some ⟨gr, 0, none⟩) p.len.length kr) 4 1 p.len.length (bools (List.replicate p.len.length false)) :: row (.slice (some ⟨gc, 0, none⟩) p.len.length kc) 25 1 p.len.length (rs.map (·.1)) :: row (.slice (some ⟨gd, 0, none⟩) p.len.length kd) 3 1 p.len.length (ints (List.replicate p.len.length 0)) :: row (.slice Lf 0 kf) 97 3 0 (ntc []) :: row (.slice (some ⟨gu, 0, none⟩) p.len.length ku) 4 1 p.len.length (bools (unwOf p.len.length us)) :: fam2 3 1 rs :: blk g2 tp0 55 :: []) _ := hS.re
            refine (rask_st gB A1 c1 A2 c2 A3 c3 p r p.len.length gu ku gp kp gt kt ga ka gr kr gc kc gd kd (List.replicate p.len.length (-1)) (List.replicate p.len.length 0) (List.replicate p.len.length 0) (unwOf p.len.length us) (List.replicate p.len.length false) (List.replicate p.len.length false) (List.replicate p.len.length []) rs [] Lf 0 kf r r hS (by omega) HR.out (by simp) (by simp) (by simp) (by simp) (by simp) (by simp) HUL.out HF.out (fun l hl => by rw [List.eq_of_mem_replicate hl]; exact Nat.zero_le _) HTP.out.pat HP.out.2 rfl (by simp [chR, HR.out]) (by simp [nth, HR.out])).mono ?_
            rintro e w3 ⟨rfl, rs2, F2, nf2, k2, HF2, hS1⟩
            clear hS
            have hS := hS1
            clear hS1
            go_wp2_with (first | (refine oL ?_; ((refine sL2 hS rfl rfl rfl ?_))) | (refine oS ?_; (((refine sS4 hS rfl rfl rfl ?_)); clear hS; intro w hS)))
            refine st_retCT hS rfl rfl rfl rfl rfl ?_
            rw [HRR.out]
            exact fin_rt gB A1 c1 A2 c2 A3 c3 p r p.len.length gu ku gp kp gt kt ga ka gr kr gc kc gd kd (unwOf p.len.length us) (begT p r us) rs2 F2 nf2 k2 hS HF2.out ask_root.1 ask_root.2 HI.out HTP.out.pat
  · intro v us7 w' hv hus7 hS'
    obtain ⟨gB, rfl⟩ := hv
    match us7, hus7 with
    | [_, _, _, _, _, _], ⟨⟨q1, rfl⟩, ⟨q3, rfl⟩, ⟨q4, rfl⟩, ⟨q5, rfl⟩, ⟨q6, rfl⟩, ⟨q7, rfl⟩, _⟩ =>
    simp only [pczM, lstM, putsM, ptrT, List.cons_append, List.nil_append] at hS' ⊢
    (try simp only [Act.put, nA, nB, nC])
    clear hS
    have hS := hS'
    clear hS'
    refine dP hS 14 rfl rfl ?_
    (try simp only [Act.put, nA, nB, nC])
    refine dr_one 16 (by kernel_rfl) rfl ?_
    (((refine sS4 hS rfl rfl rfl ?_)); clear hS; intro w hS)
    (try simp only [Act.put, nA, nB, nC])
    refine dr_late (by kernel_rfl) ?_
    refine dr_done (by kernel_rfl) ?_
    (try simp only [Act.put, nA, nB, nC])
    obtain ⟨gB, rfl⟩ : ∃ gB0, gB0 = gB := ⟨_, rfl⟩
    go_wp2_with (fail)
    go_loopw [11] (fun s11 wr => ∃ (q : Nat) (K : Option Addr) (ck : Nat), q ≤ n ∧ s11 = .int .i64 q ∧ St w0 (fun k => S k ∧ k < w0.heap.size) (froz (fun k => S k ∧ k < w0.heap.size) w0 :: blk gB [.slice A1 n c1, .slice A2 p.ck.length c2, .slice A3 p.arcs.length c3, .int .i64 (r : Int), .slice (some ⟨q1, 0, none⟩) n n, .slice K q ck, .slice (some ⟨q3, 0, none⟩) n n, .slice (some ⟨q4, 0, none⟩) n n, .slice (some ⟨q5, 0, none⟩) n n, .slice (some ⟨q6, 0, none⟩) n n, .slice (some ⟨q7, 0, none⟩) n n, .slice none 0 0] 55 :: row (.slice (some ⟨q1, 0, none⟩) n n) 4 1 n (bools (unwOf n [])) :: row (.slice K q ck) 3 1 q (ints (List.replicate q (-1))) :: row (.slice (some ⟨q3, 0, none⟩) n n) 4 1 n (bools (List.replicate n false)) :: row (.slice (some ⟨q4, 0, none⟩) n n) 3 1 n (ints (List.replicate n 0)) :: row (.slice (some ⟨q5, 0, none⟩) n n) 4 1 n (bools (List.replicate n false)) :: row (.slice (some ⟨q6, 0, none⟩) n n) 25 1 n (List.replicate n (.slice none 0 0)) :: row (.slice (some ⟨q7, 0, none⟩) n n) 3 1 n (ints (List.replicate n 0)) :: blk g2 tp0 55 :: []) wr) (fun s11 _ => n - (intOf s11).toNat)
    case atStart =>
      have hS2 : St w0 (fun k => S k ∧ k < w0.heap.size) (row (.slice none 0 0) 3 1 0 (ints (List.replicate 0 (-1))) :: _) _ := hS.addNil 3 1
      exact ⟨0, none, 0, by omega, rfl, by rw [unwOf_nil]; exact hS2.re⟩
    case round =>
      clear hS
      obtain ⟨q, K, ck, hq, rfl, hS⟩ := hrel
      by_cases hlt : q < n
      · have hlt' : (q : Int) < (n : Int) := by omega
        have HRP := Lib.hid (show ints (List.replicate (q + 1) (-1)) = ints (List.replicate q (-1)) ++ [.int .i64 (-1)] by rw [List.replicate_succ']; simp [ints])
        go_wp2_with (first | (refine oL ?_; ((refine sL1 hS rfl rfl rfl ?_))) | (refine oS ?_; (((refine sS1 hS rfl rfl rfl ?_)); clear hS; intro w hS)) | (refine oP ?_; (((refine sP2 hS rfl rfl rfl ?_)); clear hS; (((fail_if_success guard_hyp L1); intro L1 cl1 w hL1 hM1 hS)))) | ((((refine oC ?_; (refine sC1 hS rfl rfl ?_)))); clear hS; (((fail_if_success guard_hyp g3); intro g3 w hS))))
        go_roundw
        case measure => simp [intOf]; try omega
        (try simp only [List.set_cons_zero, List.set_cons_succ] at hS)
        exact ⟨q + 1, L1, cl1, by omega, by go_num, by rw [HRP.out]; exact hS.re⟩
      · have hlt' : ¬ (q : Int) < (n : Int) := by omega
        obtain rfl : q = n := by omega
        go_wp2_with (fail)
        go_loopw [12] (fun s12 wr => ∃ i : Nat, i ≤ un ∧ s12 = .int .i64 i ∧ St w0 (fun k => S k ∧ k < w0.heap.size) (froz (fun k => S k ∧ k < w0.heap.size) w0 :: blk gB [.slice A1 q c1, .slice A2 p.ck.length c2, .slice A3 p.arcs.length c3, .int .i64 (r : Int), .slice (some ⟨q1, 0, none⟩) q q, .slice K q ck, .slice (some ⟨q3, 0, none⟩) q q, .slice (some ⟨q4, 0, none⟩) q q, .slice (some ⟨q5, 0, none⟩) q q, .slice (some ⟨q6, 0, none⟩) q q, .slice (some ⟨q7, 0, none⟩) q q, .slice none 0 0] 55 :: row (.slice (some ⟨q1, 0, none⟩) q q) 4 1 q (bools (unwOf q (us.take i))) :: row (.slice K q ck) 3 1 q (ints (List.replicate q (-1))) :: row (.slice (some ⟨q3, 0, none⟩) q q) 4 1 q (bools (List.replicate q false)) :: row (.slice (some ⟨q4, 0, none⟩) q q) 3 1 q (ints (List.replicate q 0)) :: row (.slice (some ⟨q5, 0, none⟩) q q) 4 1 q (bools (List.replicate q false)) :: row (.slice (some ⟨q6, 0, none⟩) q q) 25 1 q (List.replicate q (.slice none 0 0)) :: row (.slice (some ⟨q7, 0, none⟩) q q) 3 1 q (ints (List.replicate q 0)) :: blk g2 tp0 55 :: []) wr) (fun s12 _ => un - (intOf s12).toNat)
        case atStart => exact ⟨0, by omega, rfl, by rw [List.take_zero]; exact hS.re⟩
        case round =>
          clear hS
          obtain ⟨i, hi, rfl, hS⟩ := hrel
          by_cases hil : i < un
          · have hil' : (i : Int) < (un : Int) := by omega
            have hiu : i < us.length := by omega
            obtain ⟨bU, oU, rfl, hfc⟩ := (show RI (fun k => S k ∧ k < w0.heap.size) w0 UU us from HU.out.1).fc (k := i) hiu
            have HX := Lib.hid (nth_eq hiu)
            have HUO := Lib.hid (fun h => unwOf_out (n := q) hiu h)
            have HUI := Lib.hid (fun z h1 h2 => unwOf_in (n := q) (z := z) hiu h1 h2)
            rw [← HX.out] at HUO HUI
            generalize nth us i = z at *
            by_cases hz0 : z < 0
            · have d2 : decide (0 ≤ z) = false := decide_eq_false (by omega)
              have HE := Lib.hid (HUO.out (.inl hz0))
              clear hz0
              go_upto_region 15 with (fail)
              refine lR ?_
              refine lM rfl rfl ?_
              (try simp only [Act.put, nA, nB, nC])
              refine lM rfl rfl ?_
              (try simp only [Act.put, nA, nB, nC])
              refine lP rfl ?_
              (try simp only [Act.put, nA, nB, nC])
              (refine ⟨?_⟩; (((refine sL7 hS rfl rfl ?_))); refine WL.h ?_)
              (try simp only [Act.put, nA, nB, nC])
              refine lP rfl ?_
              (try simp only [Act.put, nA, nB, nC])
              refine lM rfl rfl ?_
              (try simp only [Act.put, nA, nB, nC])
              first | refine lQ rfl ?_ | refine lM rfl rfl ?_ | fail
              (try simp only [Act.put, nA, nB, nC])
              first | refine lQ rfl ?_ | refine lM rfl rfl ?_ | fail
              (try simp only [Act.put, nA, nB, nC])
              first | refine lQ rfl ?_ | refine lP rfl ?_ | fail
              (try simp only [Act.put, nA, nB, nC])
              (refine lQ rfl ?_)
              (try simp only [Act.put, nA, nB, nC])
              first | refine lQ rfl ?_ | refine lM rfl rfl ?_ | fail
              (try simp only [Act.put, nA, nB, nC])
              first | refine lQ rfl ?_ | refine lP rfl ?_ | fail
              (try simp only [Act.put, nA, nB, nC])
              refine lP rfl ?_
              (try simp only [Act.put, nA, nB, nC])
              refine lZ ?_
              go_wp2_with (fail)
              go_roundw
              case measure => simp [intOf]; try omega
              exact ⟨i + 1, by omega, by go_num, by rw [HE.out]; exact hS.re⟩
            · have d2 : decide (0 ≤ z) = true := decide_eq_true (by omega)
              by_cases hzn : z < (q : Int)
              · obtain ⟨zk, rfl⟩ : ∃ zk : Nat, z = zk := ⟨z.toNat, by omega⟩
                have hzk : zk < (unwOf q (us.take i)).length := by rw [unwOf_len]; omega
                have HE := Lib.hid (HUI.out zk rfl (by omega))
                have d3 : decide ((zk : Int) < (q : Int)) = true := decide_eq_true hzn
                have d3n : decide (zk < q) = true := decide_eq_true (by omega)
                clear hz0
                go_upto_region 15 with (fail)
                refine lR ?_
                refine lM rfl rfl ?_
                (try simp only [Act.put, nA, nB, nC])
                refine lM rfl rfl ?_
                (try simp only [Act.put, nA, nB, nC])
                refine lP rfl ?_
                (try simp only [Act.put, nA, nB, nC])
                (refine ⟨?_⟩; (((refine sL7 hS rfl rfl ?_))); refine WL.h ?_)
                (try simp only [Act.put, nA, nB, nC])
                refine lP rfl ?_
                (try simp only [Act.put, nA, nB, nC])
                refine lM rfl rfl ?_
                (try simp only [Act.put, nA, nB, nC])
                first | refine lQ rfl ?_ | refine lM rfl rfl ?_ | fail
                (try simp only [Act.put, nA, nB, nC])
                first | refine lQ rfl ?_ | refine lM rfl rfl ?_ | fail
                (try simp only [Act.put, nA, nB, nC])
                first | refine lQ rfl ?_ | refine lP rfl ?_ | fail
                (try simp only [Act.put, nA, nB, nC])
                ((refine ⟨?_⟩; (((refine sL7 hS rfl rfl ?_))); refine WL.h ?_))
                (try simp only [Act.put, nA, nB, nC])
                first | refine lQ rfl ?_ | refine lM rfl rfl ?_ | fail
                (try simp only [Act.put, nA, nB, nC])
                first | refine lQ rfl ?_ | refine lP rfl ?_ | fail
                (try simp only [Act.put, nA, nB, nC])
                refine lP rfl ?_
                (try simp only [Act.put, nA, nB, nC])
                refine lZ ?_
                go_upto_region 16 with (fail)
                refine dr_start0 [7]  hS (by kernel_rfl) rfl ?_; clear hS; intro w hS
                refine dP hS 0 rfl rfl ?_
                (try simp only [Act.put, nA, nB, nC])
                (refine dL1 hS 1 rfl rfl rfl rfl ?_)
                (try simp only [Act.put, nA, nB, nC])
                refine dM hS 2 rfl rfl rfl ?_
                (try simp only [Act.put, nA, nB, nC])
                refine dM hS 3 rfl rfl rfl ?_
                (try simp only [Act.put, nA, nB, nC])
                refine dP hS 4 rfl rfl ?_
                (try simp only [Act.put, nA, nB, nC])
                (refine dL7 hS 5 rfl rfl rfl ?_)
                (try simp only [Act.put, nA, nB, nC])
                refine dP hS 6 rfl rfl ?_
                (try simp only [Act.put, nA, nB, nC])
                refine dr_one 7 (by kernel_rfl) rfl ?_
                first | (refine sS6 hS rfl rfl rfl hzk ?_; clear hS; intro w hS) | ((first | refine sS1 hS rfl rfl rfl ?_ | refine sS2 hS rfl rfl rfl ?_ | refine sS3 hS rfl rfl rfl ?_ | refine sS4 hS rfl rfl rfl ?_ | refine sS5 hS rfl rfl rfl ?_); clear hS; intro w hS) | fail
                (try simp only [Act.put, nA, nB, nC])
                refine dr_late (by kernel_rfl) ?_
                refine dr_done (by kernel_rfl) ?_
                go_wp2_with (fail)
                go_roundw
                case measure => simp [intOf]; try omega
                exact ⟨i + 1, by omega, by go_num, by rw [← HE.out]; exact hS.re⟩
              · have d3 : decide (z < (q : Int)) = false := decide_eq_false hzn
                have HE := Lib.hid (HUO.out (.inr (by omega)))
                clear hz0 hzn
                go_upto_region 15 with (fail)
                refine lR ?_
                refine lM rfl rfl ?_
                (try simp only [Act.put, nA, nB, nC])
                refine lM rfl rfl ?_
                (try simp only [Act.put, nA, nB, nC])
                refine lP rfl ?_
                (try simp only [Act.put, nA, nB, nC])
                (refine ⟨?_⟩; (((refine sL7 hS rfl rfl ?_))); refine WL.h ?_)
                (try simp only [Act.put, nA, nB, nC])
                refine lP rfl ?_
                (try simp only [Act.put, nA, nB, nC])
                refine lM rfl rfl ?_
                (try simp only [Act.put, nA, nB, nC])
                first | refine lQ rfl ?_ | refine lM rfl rfl ?_ | fail
                (try simp only [Act.put, nA, nB, nC])
                first | refine lQ rfl ?_ | refine lM rfl rfl ?_ | fail
                (try simp only [Act.put, nA, nB, nC])
                first | refine lQ rfl ?_ | refine lP rfl ?_ | fail
                (try simp only [Act.put, nA, nB, nC])
                ((refine ⟨?_⟩; (((refine sL7 hS rfl rfl ?_))); refine WL.h ?_))
                (try simp only [Act.put, nA, nB, nC])
                first | refine lQ rfl ?_ | refine lM rfl rfl ?_ | fail
                (try simp only [Act.put, nA, nB, nC])
                first | refine lQ rfl ?_ | refine lP rfl ?_ | fail
                (try simp only [Act.put, nA, nB, nC])
                refine lP rfl ?_
                (try simp only [Act.put, nA, nB, nC])
                refine lZ ?_
                go_wp2_with (fail)
                go_roundw
                case measure => simp [intOf]; try omega
                exact ⟨i + 1, by omega, by go_num, by rw [HE.out]; exact hS.re⟩
          · have hil' : ¬ (i : Int) < (un : Int) := by omega
            rw [List.take_of_length_le (by omega)] at hS
            go_upto_region 17 with (fail)
            obtain ⟨T, hS2, hi0, u1, u2, u3, u4, u5, u6, u7⟩ := freezeT (hS.re (ds := froz (fun k => S k ∧ k < w0.heap.size) w0 :: row (.slice (some ⟨q1, 0, none⟩) q q) 4 1 q (bools (unwOf q us)) :: row (.slice K q ck) 3 1 q (ints (List.replicate q (-1))) :: row (.slice (some ⟨q3, 0, none⟩) q q) 4 1 q (bools (List.replicate q false)) :: row (.slice (some ⟨q4, 0, none⟩) q q) 3 1 q (ints (List.replicate q 0)) :: row (.slice (some ⟨q5, 0, none⟩) q q) 4 1 q (bools (List.replicate q false)) :: row (.slice (some ⟨q6, 0, none⟩) q q) 25 1 q (List.replicate q (.slice none 0 0)) :: row (.slice (some ⟨q7, 0, none⟩) q q) 3 1 q (ints (List.replicate q 0)) :: blk gB [.slice A1 q c1, .slice A2 p.ck.length c2, .slice A3 p.arcs.length c3, .int .i64 (r : Int), .slice (some ⟨q1, 0, none⟩) q q, .slice K q ck, .slice (some ⟨q3, 0, none⟩) q q, .slice (some ⟨q4, 0, none⟩) q q, .slice (some ⟨q5, 0, none⟩) q q, .slice (some ⟨q6, 0, none⟩) q q, .slice (some ⟨q7, 0, none⟩) q q, .slice none 0 0] 55 :: blk g2 tp0 55 :: []))
            clear hS
            have hS := hS2
            clear hS2
            have HI := Lib.hid hi0
            have HTP := Lib.hid (show TpAt T _ ⟨A1, c1, A2, c2, A3, c3, some ⟨q1, 0, none⟩, q, K, ck, some ⟨q3, 0, none⟩, q, some ⟨q4, 0, none⟩, q, some ⟨q5, 0, none⟩, q, some ⟨q6, 0, none⟩, q, some ⟨q7, 0, none⟩, q, none, 0⟩ p (TS.new q r (unwOf q us)) from ⟨HP.out.1.into hi0, u1, u2, u3, u4, u5, ⟨_, u6, by rw [show (TS.new q r (unwOf q us)).ch = List.replicate q [] from rfl, natsR]; exact Rw2.rep _ (ReV.nil _ _)⟩, u7, RV.nil_ _ _ _, ⟨fun _ => ⟨rfl, rfl⟩, (fun a h => by cases h), Nat.le_refl _, by simp⟩⟩)
            clear hi0 u1 u2 u3 u4 u5 u6 u7
            have hq0 : 0 < q := Nat.lt_of_le_of_lt (Nat.zero_le _) HR.out
            have hqe := HN.out
            subst hqe
            go_wp2_with (first | (go_at_call 63; refine (rcopy_st A1 c1 A2 c2 A3 c3 (some ⟨q1, 0, none⟩) p.len.length K ck (some ⟨q3, 0, none⟩) p.len.length (some ⟨q4, 0, none⟩) p.len.length (some ⟨q5, 0, none⟩) p.len.length (some ⟨q6, 0, none⟩) p.len.length (some ⟨q7, 0, none⟩) p.len.length none 0 p r (unwOf p.len.length us) (List.replicate p.len.length (-1)) (List.replicate p.len.length false) (List.replicate p.len.length 0) (List.replicate p.len.length false) (List.replicate p.len.length []) (List.replicate p.len.length 0) [] p.len.length 0 hS HTP.out (TsL.new r HUL.out) hn5 rfl (by omega) (fun l hl => by rw [List.eq_of_mem_replicate hl]; exact Nat.zero_le _)).mono ?_; rintro e w2 ⟨Lu, ku, Lp, kp, Lt, kt, La, ka, Lr, kr, Lc, kc, Ld, kd, Lf, kf, rs, rfl, HF, hS2⟩; clear hS; have hS := hS2; clear hS2) | (refine oL ?_; ((refine sL2 hS rfl rfl rfl ?_))) | (refine oS ?_; (((refine sS4 hS rfl rfl rfl ?_)); clear hS; intro w hS)))
            obtain ⟨gu, rfl⟩ := hS.rowSome Lu hq0
            obtain ⟨gp, rfl⟩ := hS.rowSome Lp hq0
            obtain ⟨gt, rfl⟩ := hS.rowSome Lt hq0
            obtain ⟨ga, rfl⟩ := hS.rowSome La hq0
            obtain ⟨gr, rfl⟩ := hS.rowSome Lr hq0
            obtain ⟨gc, rfl⟩ := hS.rowSome Lc hq0
            obtain ⟨gd, rfl⟩ := hS.rowSome Ld hq0
            (try simp only [List.set_cons_zero, List.set_cons_succ] at hS)
            replace hS : St w0 (fun k => S k ∧ k < w0.heap.size) (froz T wr :: blk gB [.slice A1 p.len.length c1, .slice A2 p.ck.length c2, .slice A3 p.arcs.length c3, .int .i64 (r : Int), .slice (some ⟨gu, 0, none⟩) p.len.length ku, .slice (some ⟨gp, 0, none⟩) p.len.length kp, .slice (some ⟨gt, 0, none⟩) p.len.length kt, .slice (some ⟨ga, 0, none⟩) p.len.length ka, .slice (some ⟨gr, 0, none⟩) p.len.length kr, .slice (some ⟨gc, 0, none⟩) p.len.length kc, .slice (some ⟨gd, 0, none⟩) p.len.length kd, .slice Lf 0 kf] 55 :: row (.slice (some ⟨gp, 0, none⟩) p.len.length kp) 3 1 p.len.length (ints (List.replicate p.len.length (-1))) :: row (.slice (some ⟨gt, 0, none⟩) p.len.length kt) 4 1 p.len.length (bools (List.replicate p.len.length false)) :: row (.slice (some ⟨ga, 0, none⟩) p.len.length ka) 3 1 p.len.length (ints (List.replicate p.len.length 0)) :: row (.slice (some ⟨gr, 0, none⟩) p.len.length kr) 4 1 p.len.length (bools (List.replicate p.len.length false)) :: row (.slice (some ⟨gc, 0, none⟩) p.len.length kc) 25 1 p.len.length (rs.map (·.1)) :: row (.slice (some ⟨gd, 0, none⟩) p.len.length kd) 3 1 p.len.length (ints (List.replicate p.len.length 0)) :: row (.slice Lf 0 kf) 97 3 0 (ntc []) :: row (.slice (some ⟨gu, 0, none⟩) p.len.length ku) 4 1 p.len.length (bools (unwOf p.len.length us)) :: fam2 3 1 rs :: blk g2 tp0 55 :: []) _ := hS.re
            refine (rask_st gB A1 c1 A2 c2 A3 c3 p r p.len.length gu ku gp kp gt kt ga ka gr kr gc kc gd kd (List.replicate p.len.length (-1)) (List.replicate p.len.length 0) (List.replicate p.len.length 0) (unwOf p.len.length us) (List.replicate p.len.length false) (List.replicate p.len.length false) (List.replicate p.len.length []) rs [] Lf 0 kf r r hS (by omega) HR.out (by simp) (by simp) (by simp) (by simp) (by simp) (by simp) HUL.out HF.out (fun l hl => by rw [List.eq_of_mem_replicate hl]; exact Nat.zero_le _) HTP.out.pat HP.out.2 rfl (by simp [chR, HR.out]) (by simp [nth, HR.out])).mono ?_
            rintro e w3 ⟨rfl, rs2, F2, nf2, k2, HF2, hS1⟩
            clear hS
            have hS := hS1
            clear hS1
            go_wp2_with (first | (refine oL ?_; ((refine sL2 hS rfl rfl rfl ?_))) | (refine oS ?_; (((refine sS4 hS rfl rfl rfl ?_)); clear hS; intro w hS)))
            refine st_retCT hS rfl rfl rfl rfl rfl ?_
            rw [HRR.out]
            exact fin_rt gB A1 c1 A2 c2 A3 c3 p r p.len.length gu ku gp kp gt kt ga ka gr kr gc kc gd kd (unwOf p.len.length us) (begT p r us) rs2 F2 nf2 k2 hS HF2.out ask_root.1 ask_root.2 HI.out HTP.out.pat
end Go.Proofs.Ytmjmdncdmmcmaaa
