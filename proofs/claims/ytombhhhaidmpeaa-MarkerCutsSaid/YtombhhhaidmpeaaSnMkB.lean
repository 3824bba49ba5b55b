/- Moves by choices (rollbacknetmake.Codes.Moves). Conditions: the choices lie in memory, two to four processes. -/
import Derived.Test.YtombhhhaidmpeaaSnMkA
import Derived.Test.YtombhhhaidmpeaaSnLaw
namespace Go.Proofs.Ytombhhhaidmpeaa
open Go.RowKit
set_option linter.unusedVariables false
set_option linter.unusedSimpArgs false

theorem mvCells_one (z : Mv) : ∀ u ∈ mvCells z, u.oneCell' = true := by
  intro u hu
  simp only [mvCells, List.mem_cons, List.not_mem_nil, or_false] at hu
  rcases hu with rfl | rfl | rfl | rfl <;> rfl
section
variable {w0 w : World} {M : Nat → Prop} {cs : List (Chunk w0 M)} {f : Chunk w0 M → List (Chunk w0 M)}
variable {P : Program} {ops : Array Oper} {Q : Exit → Act → World → Prop} {a : Act} {ds : List (Chunk w0 M)} {rest : List Oper} {d : Option Tmp} {tt ty t e : TypeId} {pos : String} {af : Array Edge} {gd : Option (Nat × Bool)} {x y : Operand}
/-- append of one move -/
theorem st_appM {bytes c c1 g n : Nat} {ys : List Mv} {k1 k2 k3 k4 : Int} {L1 : Option Addr} [hT : ElemC P t e 4 bytes] (hS : St w0 M cs w) (hw : Region.wanted ⟨d, .call { callee := .builtin .append, args := #[x, y], argTypes := #[t, t] }, tt, pos, af, gd⟩ (yielded ops a.tmps) = true)
    (hx' : oval a x = some (.slice L1 n c1)) (hy' : oval a y = some (.slice (some ⟨g, 0, none⟩) 1 c)) {t' : TypeId} [hd : DropB g cs [.int .i64 k1, .int .i64 k2, .int .i64 k3, .int .i64 k4] t' ds] [hp : PickR (.slice L1 n c1) ds e 4 n (ys.flatMap mvCells) f] (hb : (n + 1) * bytes ≤ 140737488355328)
    (k : ∀ L c' w', n + 1 ≤ c' → c' ≤ 9223372036854775807 → St w0 M (f (row (.slice L (n + 1) c') e 4 (n + 1) ((ys ++ [(⟨k1, k2, k3, k4⟩ : Mv)]).flatMap mvCells))) w' → wpList P ops Q rest (a.put d (.slice L (n + 1) c')) w') :
    wpList P ops Q (⟨d, .call { callee := .builtin .append, args := #[x, y], argTypes := #[t, t] }, tt, pos, af, gd⟩ :: rest) a w := by
  refine st_app hS hw hx' hy' rfl (mvCells_one ⟨k1, k2, k3, k4⟩) hb ?_
  intro L c' w' h1 h2 h3
  have := k L c' w' h1 h2
  rw [List.flatMap_append] at this
  simp only [List.flatMap_cons, List.flatMap_nil, List.append_nil] at this
  exact this h3
end
theorem mv_end {w0 w : World} {M : Nat → Prop} {L : Option Addr} {c m g : Nat} {κ : CK} {r : List Int} {e : TypeId} {l : List Mv} {k1 k2 k3 k4 : Int} (h : St w0 M [row (.slice L m c) e 4 m (l.flatMap mvCells ++ [.int .i64 k1, .int .i64 k2, .int .i64 k3, .int .i64 k4]), cds g κ r] w) : St w0 M [row (.slice L m c) e 4 m ((l ++ [(⟨k1, k2, k3, k4⟩ : Mv)]).flatMap mvCells), cds g κ r] w := by
  simpa [mvCells] using h
/-- what Moves returns -/
def MvRet (g0 : Nat) (κ : CK) (w0 : World) (e : Ending) (w' : World) : Prop := ∃ (L : Option Addr) (c m : Nat) (l : List Mv) (r' : List Int), e = .returned (.slice L m c) ∧ l.length = m ∧ m ≤ 50 ∧ w'.ownsRow w0.heap.size 62 4 (.slice L m c) m (l.flatMap mvCells) ∧ CdsAt w' g0 κ r' ∧ Keep (fun k => k ≠ g0) w0 w'
set_option maxRecDepth 100000 in
set_option maxHeartbeats 6400000 in
theorem moves_any (g0 : Nat) (κ : CK) (r : List Int) (n : Nat) (w0 : World) (hc : CdsAt w0 g0 κ r) (hn2 : 2 ≤ n) (hn4 : n ≤ 4) :
    Calls Try.prog 51 #[.pointer (some ⟨g0, 0, none⟩), .int .i64 n, .int .i64 50] w0 (MvRet g0 κ w0) := by
  have hS := St.startC hc
  clear hc
  go_enter Try.func51, Try.ntmps51
  go_wp2_with (first | (refine oP ?_; ((first | refine sP1 hS rfl rfl rfl ?_ | refine sP2 hS rfl rfl rfl ?_ | refine sP3 hS rfl rfl rfl ?_); clear hS; first | ((fail_if_success guard_hyp L1); intro L1 cl1 w hL1 hM1 hS) | ((fail_if_success guard_hyp L2); intro L2 cl2 w hL2 hM2 hS) | ((fail_if_success guard_hyp L3); intro L3 cl3 w hL3 hM3 hS) | ((fail_if_success guard_hyp L4); intro L4 cl4 w hL4 hM4 hS) | ((fail_if_success guard_hyp L5); intro L5 cl5 w hL5 hM5 hS) | fail)) | ((first | (refine oC ?_; first | refine sC0 hS rfl ?_ | refine sC1 hS rfl rfl ?_ | refine sC2 hS rfl rfl ?_ | refine sC3 hS rfl rfl rfl ?_ | refine sC4 hS rfl rfl rfl ?_)); clear hS; first | ((fail_if_success guard_hyp g1); intro g1 w hS) | ((fail_if_success guard_hyp g2); intro g2 w hS) | ((fail_if_success guard_hyp g3); intro g3 w hS) | ((fail_if_success guard_hyp g4); intro g4 w hS) | ((fail_if_success guard_hyp g5); intro g5 w hS) | fail) | fail)
  go_loopw [7] (fun s7 wr => ∃ (L : Option Addr) (cl m : Nat) (l : List Mv) (r' : List Int), m ≤ 50 ∧ Hid (l.length = m) ∧ s7 = .slice L m cl ∧ St w0 (fun k => k = g0) [row (.slice L m cl) 62 4 m (l.flatMap mvCells), cds g0 κ r'] wr) (fun s7 _ => match s7 with | .slice _ m _ => 50 - m | _ => 0)
  case atStart => exact ⟨none, 0, 0, [], r, by omega, Lib.hid rfl, rfl, hS.addNil _ _⟩
  case round =>
    obtain ⟨L, cl, m, l, r', hm, HM, rfl, hS⟩ := hrel
    by_cases hlt : m < 50
    · have hlt' : (m : Int) < 50 := by omega
      have dlt : decide ((m : Int) < 50) = true := decide_eq_true hlt'
      cases hem : r'.isEmpty with
      | true =>
        have HE := Lib.hid hem
        clear hem
        go_upto_region 2 with (first | (refine oP ?_; ((first | refine sP1 hS rfl rfl rfl ?_ | refine sP2 hS rfl rfl rfl ?_ | refine sP3 hS rfl rfl rfl ?_); clear hS; first | ((fail_if_success guard_hyp L1); intro L1 cl1 w hL1 hM1 hS) | ((fail_if_success guard_hyp L2); intro L2 cl2 w hL2 hM2 hS) | ((fail_if_success guard_hyp L3); intro L3 cl3 w hL3 hM3 hS) | ((fail_if_success guard_hyp L4); intro L4 cl4 w hL4 hM4 hS) | ((fail_if_success guard_hyp L5); intro L5 cl5 w hL5 hM5 hS) | fail)) | ((first | (refine oC ?_; first | refine sC0 hS rfl ?_ | refine sC1 hS rfl rfl ?_ | refine sC2 hS rfl rfl ?_ | refine sC3 hS rfl rfl rfl ?_ | refine sC4 hS rfl rfl rfl ?_)); clear hS; first | ((fail_if_success guard_hyp g1); intro g1 w hS) | ((fail_if_success guard_hyp g2); intro g2 w hS) | ((fail_if_success guard_hyp g3); intro g3 w hS) | ((fail_if_success guard_hyp g4); intro g4 w hS) | ((fail_if_success guard_hyp g5); intro g5 w hS) | fail) | fail)
        refine lR ?_
        refine lM rfl rfl ?_
        (try simp only [Act.put, nA, nB, nC])
        refine lP rfl ?_
        (try simp only [Act.put, nA, nB, nC])
        refine lM rfl rfl ?_
        (try simp only [Act.put, nA, nB, nC])
        refine lP rfl ?_
        (try simp only [Act.put, nA, nB, nC])
        refine lM rfl rfl ?_
        (try simp only [Act.put, nA, nB, nC])
        first | refine lQ rfl ?_ | refine lM rfl rfl ?_ | fail
        (try simp only [Act.put, nA, nB, nC])
        first | refine lQ rfl ?_ | (refine ⟨?_⟩; (refine st_call rfl (by kernel_rfl) rfl ?_; go_at_call 40; refine (left_st hS).mono ?_; rintro e w ⟨rfl, hS⟩; rw [HE.out]); refine WL.h ?_) | fail
        (try simp only [Act.put, nA, nB, nC])
        refine lP rfl ?_
        (try simp only [Act.put, nA, nB, nC])
        refine lZ ?_
        go_wp2_with (first | (refine oP ?_; ((first | refine sP1 hS rfl rfl rfl ?_ | refine sP2 hS rfl rfl rfl ?_ | refine sP3 hS rfl rfl rfl ?_); clear hS; first | ((fail_if_success guard_hyp L1); intro L1 cl1 w hL1 hM1 hS) | ((fail_if_success guard_hyp L2); intro L2 cl2 w hL2 hM2 hS) | ((fail_if_success guard_hyp L3); intro L3 cl3 w hL3 hM3 hS) | ((fail_if_success guard_hyp L4); intro L4 cl4 w hL4 hM4 hS) | ((fail_if_success guard_hyp L5); intro L5 cl5 w hL5 hM5 hS) | fail)) | ((first | (refine oC ?_; first | refine sC0 hS rfl ?_ | refine sC1 hS rfl rfl ?_ | refine sC2 hS rfl rfl ?_ | refine sC3 hS rfl rfl rfl ?_ | refine sC4 hS rfl rfl rfl ?_)); clear hS; first | ((fail_if_success guard_hyp g1); intro g1 w hS) | ((fail_if_success guard_hyp g2); intro g2 w hS) | ((fail_if_success guard_hyp g3); intro g3 w hS) | ((fail_if_success guard_hyp g4); intro g4 w hS) | ((fail_if_success guard_hyp g5); intro g5 w hS) | fail) | fail)
        go_ret
        exact ⟨L, cl, m, l, r', rfl, HM.out, hm, hS.rowFresh (κ := κ) (r := r'), hS.codes, hS.keep⟩
      | false =>
        have HE := Lib.hid hem
        clear hem
        have hk16 := nxt_lt r' (n := 16) (by omega)
        have hkp := nxt_lt r'.tail (n := n) (by omega)
        generalize h16 : nxt r' 16 = k16 at *
        have H16 := Lib.hid h16
        generalize hpp : nxt r'.tail n = p at *
        have HP := Lib.hid hpp
        clear h16 hpp
        go_upto_region 2 with (first | (refine oP ?_; ((first | refine sP1 hS rfl rfl rfl ?_ | refine sP2 hS rfl rfl rfl ?_ | refine sP3 hS rfl rfl rfl ?_); clear hS; first | ((fail_if_success guard_hyp L1); intro L1 cl1 w hL1 hM1 hS) | ((fail_if_success guard_hyp L2); intro L2 cl2 w hL2 hM2 hS) | ((fail_if_success guard_hyp L3); intro L3 cl3 w hL3 hM3 hS) | ((fail_if_success guard_hyp L4); intro L4 cl4 w hL4 hM4 hS) | ((fail_if_success guard_hyp L5); intro L5 cl5 w hL5 hM5 hS) | fail)) | ((first | (refine oC ?_; first | refine sC0 hS rfl ?_ | refine sC1 hS rfl rfl ?_ | refine sC2 hS rfl rfl ?_ | refine sC3 hS rfl rfl rfl ?_ | refine sC4 hS rfl rfl rfl ?_)); clear hS; first | ((fail_if_success guard_hyp g1); intro g1 w hS) | ((fail_if_success guard_hyp g2); intro g2 w hS) | ((fail_if_success guard_hyp g3); intro g3 w hS) | ((fail_if_success guard_hyp g4); intro g4 w hS) | ((fail_if_success guard_hyp g5); intro g5 w hS) | fail) | fail)
        refine lR ?_
        refine lM rfl rfl ?_
        (try simp only [Act.put, nA, nB, nC])
        refine lP rfl ?_
        (try simp only [Act.put, nA, nB, nC])
        refine lM rfl rfl ?_
        (try simp only [Act.put, nA, nB, nC])
        refine lP rfl ?_
        (try simp only [Act.put, nA, nB, nC])
        refine lM rfl rfl ?_
        (try simp only [Act.put, nA, nB, nC])
        first | refine lQ rfl ?_ | refine lM rfl rfl ?_ | fail
        (try simp only [Act.put, nA, nB, nC])
        first | refine lQ rfl ?_ | (refine ⟨?_⟩; (refine st_call rfl (by kernel_rfl) rfl ?_; go_at_call 40; refine (left_st hS).mono ?_; rintro e w ⟨rfl, hS⟩; rw [HE.out]); refine WL.h ?_) | fail
        (try simp only [Act.put, nA, nB, nC])
        refine lP rfl ?_
        (try simp only [Act.put, nA, nB, nC])
        refine lZ ?_
        go_wp2_with (first | (refine oP ?_; ((first | refine sP1 hS rfl rfl rfl ?_ | refine sP2 hS rfl rfl rfl ?_ | refine sP3 hS rfl rfl rfl ?_); clear hS; first | ((fail_if_success guard_hyp L1); intro L1 cl1 w hL1 hM1 hS) | ((fail_if_success guard_hyp L2); intro L2 cl2 w hL2 hM2 hS) | ((fail_if_success guard_hyp L3); intro L3 cl3 w hL3 hM3 hS) | ((fail_if_success guard_hyp L4); intro L4 cl4 w hL4 hM4 hS) | ((fail_if_success guard_hyp L5); intro L5 cl5 w hL5 hM5 hS) | fail)) | ((first | (refine oC ?_; first | refine sC0 hS rfl ?_ | refine sC1 hS rfl rfl ?_ | refine sC2 hS rfl rfl ?_ | refine sC3 hS rfl rfl rfl ?_ | refine sC4 hS rfl rfl rfl ?_)); clear hS; first | ((fail_if_success guard_hyp g1); intro g1 w hS) | ((fail_if_success guard_hyp g2); intro g2 w hS) | ((fail_if_success guard_hyp g3); intro g3 w hS) | ((fail_if_success guard_hyp g4); intro g4 w hS) | ((fail_if_success guard_hyp g5); intro g5 w hS) | fail) | fail)
        refine (next_z 16 hS rfl (by omega) (by omega)).mono ?_
        rintro e w ⟨rfl, hS⟩
        rw [H16.out]
        go_wp2_with (first | (refine oP ?_; ((first | refine sP1 hS rfl rfl rfl ?_ | refine sP2 hS rfl rfl rfl ?_ | refine sP3 hS rfl rfl rfl ?_); clear hS; first | ((fail_if_success guard_hyp L1); intro L1 cl1 w hL1 hM1 hS) | ((fail_if_success guard_hyp L2); intro L2 cl2 w hL2 hM2 hS) | ((fail_if_success guard_hyp L3); intro L3 cl3 w hL3 hM3 hS) | ((fail_if_success guard_hyp L4); intro L4 cl4 w hL4 hM4 hS) | ((fail_if_success guard_hyp L5); intro L5 cl5 w hL5 hM5 hS) | fail)) | ((first | (refine oC ?_; first | refine sC0 hS rfl ?_ | refine sC1 hS rfl rfl ?_ | refine sC2 hS rfl rfl ?_ | refine sC3 hS rfl rfl rfl ?_ | refine sC4 hS rfl rfl rfl ?_)); clear hS; first | ((fail_if_success guard_hyp g1); intro g1 w hS) | ((fail_if_success guard_hyp g2); intro g2 w hS) | ((fail_if_success guard_hyp g3); intro g3 w hS) | ((fail_if_success guard_hyp g4); intro g4 w hS) | ((fail_if_success guard_hyp g5); intro g5 w hS) | fail) | fail)
        refine (next_z n hS rfl (by omega) (by omega)).mono ?_
        rintro e w ⟨rfl, hS⟩
        rw [HP.out]
        go_wp2_with (first | (refine oP ?_; ((first | refine sP1 hS rfl rfl rfl ?_ | refine sP2 hS rfl rfl rfl ?_ | refine sP3 hS rfl rfl rfl ?_); clear hS; first | ((fail_if_success guard_hyp L1); intro L1 cl1 w hL1 hM1 hS) | ((fail_if_success guard_hyp L2); intro L2 cl2 w hL2 hM2 hS) | ((fail_if_success guard_hyp L3); intro L3 cl3 w hL3 hM3 hS) | ((fail_if_success guard_hyp L4); intro L4 cl4 w hL4 hM4 hS) | ((fail_if_success guard_hyp L5); intro L5 cl5 w hL5 hM5 hS) | fail)) | ((first | (refine oC ?_; first | refine sC0 hS rfl ?_ | refine sC1 hS rfl rfl ?_ | refine sC2 hS rfl rfl ?_ | refine sC3 hS rfl rfl rfl ?_ | refine sC4 hS rfl rfl rfl ?_)); clear hS; first | ((fail_if_success guard_hyp g1); intro g1 w hS) | ((fail_if_success guard_hyp g2); intro g2 w hS) | ((fail_if_success guard_hyp g3); intro g3 w hS) | ((fail_if_success guard_hyp g4); intro g4 w hS) | ((fail_if_success guard_hyp g5); intro g5 w hS) | fail) | fail)
        have hkq := nxt_lt r'.tail.tail (n := n - 1) (by omega)
        refine (next_z (n - 1) hS (by omega) (by omega) (by omega)).mono ?_
        rintro e w ⟨rfl, hS⟩
        generalize nxt r'.tail.tail (n - 1) = q at *
        generalize r'.tail.tail.tail = r2 at *
        by_cases h6 : k16 < 6
        · have h6' : (k16 : Int) < 6 := by omega
          go_wp2_with (first | (refine oP ?_; ((first | refine sP1 hS rfl rfl rfl ?_ | refine sP2 hS rfl rfl rfl ?_ | refine sP3 hS rfl rfl rfl ?_); clear hS; first | ((fail_if_success guard_hyp L1); intro L1 cl1 w hL1 hM1 hS) | ((fail_if_success guard_hyp L2); intro L2 cl2 w hL2 hM2 hS) | ((fail_if_success guard_hyp L3); intro L3 cl3 w hL3 hM3 hS) | ((fail_if_success guard_hyp L4); intro L4 cl4 w hL4 hM4 hS) | ((fail_if_success guard_hyp L5); intro L5 cl5 w hL5 hM5 hS) | fail)) | ((first | (refine oC ?_; first | refine sC0 hS rfl ?_ | refine sC1 hS rfl rfl ?_ | refine sC2 hS rfl rfl ?_ | refine sC3 hS rfl rfl rfl ?_ | refine sC4 hS rfl rfl rfl ?_)); clear hS; first | ((fail_if_success guard_hyp g1); intro g1 w hS) | ((fail_if_success guard_hyp g2); intro g2 w hS) | ((fail_if_success guard_hyp g3); intro g3 w hS) | ((fail_if_success guard_hyp g4); intro g4 w hS) | ((fail_if_success guard_hyp g5); intro g5 w hS) | fail) | fail)
          refine (cint_st hS).mono ?_
          rintro e w ⟨x1, r3, rfl, hS⟩
          go_wp2_with (first | (refine oP ?_; ((first | refine sP1 hS rfl rfl rfl ?_ | refine sP2 hS rfl rfl rfl ?_ | refine sP3 hS rfl rfl rfl ?_); clear hS; first | ((fail_if_success guard_hyp L1); intro L1 cl1 w hL1 hM1 hS) | ((fail_if_success guard_hyp L2); intro L2 cl2 w hL2 hM2 hS) | ((fail_if_success guard_hyp L3); intro L3 cl3 w hL3 hM3 hS) | ((fail_if_success guard_hyp L4); intro L4 cl4 w hL4 hM4 hS) | ((fail_if_success guard_hyp L5); intro L5 cl5 w hL5 hM5 hS) | fail)) | ((first | (refine oC ?_; first | refine sC0 hS rfl ?_ | refine sC1 hS rfl rfl ?_ | refine sC2 hS rfl rfl ?_ | refine sC3 hS rfl rfl rfl ?_ | refine sC4 hS rfl rfl rfl ?_)); clear hS; first | ((fail_if_success guard_hyp g1); intro g1 w hS) | ((fail_if_success guard_hyp g2); intro g2 w hS) | ((fail_if_success guard_hyp g3); intro g3 w hS) | ((fail_if_success guard_hyp g4); intro g4 w hS) | ((fail_if_success guard_hyp g5); intro g5 w hS) | fail) | fail)
          go_roundw
          case measure => simp only []; omega
          refine ⟨_, _, m + 1, _, _, by omega, ?_, rfl, mv_end hS⟩
          exact Lib.hid (by rw [List.length_append, HM.out]; rfl)
        · have h6' : ¬ (k16 : Int) < 6 := by omega
          by_cases h14 : k16 < 14
          · have h14' : (k16 : Int) < 14 := by omega
            go_wp2_with (first | (refine oP ?_; ((first | refine sP1 hS rfl rfl rfl ?_ | refine sP2 hS rfl rfl rfl ?_ | refine sP3 hS rfl rfl rfl ?_); clear hS; first | ((fail_if_success guard_hyp L1); intro L1 cl1 w hL1 hM1 hS) | ((fail_if_success guard_hyp L2); intro L2 cl2 w hL2 hM2 hS) | ((fail_if_success guard_hyp L3); intro L3 cl3 w hL3 hM3 hS) | ((fail_if_success guard_hyp L4); intro L4 cl4 w hL4 hM4 hS) | ((fail_if_success guard_hyp L5); intro L5 cl5 w hL5 hM5 hS) | fail)) | ((first | (refine oC ?_; first | refine sC0 hS rfl ?_ | refine sC1 hS rfl rfl ?_ | refine sC2 hS rfl rfl ?_ | refine sC3 hS rfl rfl rfl ?_ | refine sC4 hS rfl rfl rfl ?_)); clear hS; first | ((fail_if_success guard_hyp g1); intro g1 w hS) | ((fail_if_success guard_hyp g2); intro g2 w hS) | ((fail_if_success guard_hyp g3); intro g3 w hS) | ((fail_if_success guard_hyp g4); intro g4 w hS) | ((fail_if_success guard_hyp g5); intro g5 w hS) | fail) | fail)
            go_roundw
            case measure => simp only []; omega
            refine ⟨_, _, m + 1, _, _, by omega, ?_, rfl, mv_end hS⟩
            exact Lib.hid (by rw [List.length_append, HM.out]; rfl)
          · have h14' : ¬ (k16 : Int) < 14 := by omega
            by_cases he14 : k16 = 14
            · subst he14
              go_wp2_with (first | (refine oP ?_; ((first | refine sP1 hS rfl rfl rfl ?_ | refine sP2 hS rfl rfl rfl ?_ | refine sP3 hS rfl rfl rfl ?_); clear hS; first | ((fail_if_success guard_hyp L1); intro L1 cl1 w hL1 hM1 hS) | ((fail_if_success guard_hyp L2); intro L2 cl2 w hL2 hM2 hS) | ((fail_if_success guard_hyp L3); intro L3 cl3 w hL3 hM3 hS) | ((fail_if_success guard_hyp L4); intro L4 cl4 w hL4 hM4 hS) | ((fail_if_success guard_hyp L5); intro L5 cl5 w hL5 hM5 hS) | fail)) | ((first | (refine oC ?_; first | refine sC0 hS rfl ?_ | refine sC1 hS rfl rfl ?_ | refine sC2 hS rfl rfl ?_ | refine sC3 hS rfl rfl rfl ?_ | refine sC4 hS rfl rfl rfl ?_)); clear hS; first | ((fail_if_success guard_hyp g1); intro g1 w hS) | ((fail_if_success guard_hyp g2); intro g2 w hS) | ((fail_if_success guard_hyp g3); intro g3 w hS) | ((fail_if_success guard_hyp g4); intro g4 w hS) | ((fail_if_success guard_hyp g5); intro g5 w hS) | fail) | fail)
              go_roundw
              case measure => simp only []; omega
              refine ⟨_, _, m + 1, _, _, by omega, ?_, rfl, mv_end hS⟩
              exact Lib.hid (by rw [List.length_append, HM.out]; rfl)
            · have he14' : ¬ (k16 : Int) = 14 := by omega
              go_wp2_with (first | (refine oP ?_; ((first | refine sP1 hS rfl rfl rfl ?_ | refine sP2 hS rfl rfl rfl ?_ | refine sP3 hS rfl rfl rfl ?_); clear hS; first | ((fail_if_success guard_hyp L1); intro L1 cl1 w hL1 hM1 hS) | ((fail_if_success guard_hyp L2); intro L2 cl2 w hL2 hM2 hS) | ((fail_if_success guard_hyp L3); intro L3 cl3 w hL3 hM3 hS) | ((fail_if_success guard_hyp L4); intro L4 cl4 w hL4 hM4 hS) | ((fail_if_success guard_hyp L5); intro L5 cl5 w hL5 hM5 hS) | fail)) | ((first | (refine oC ?_; first | refine sC0 hS rfl ?_ | refine sC1 hS rfl rfl ?_ | refine sC2 hS rfl rfl ?_ | refine sC3 hS rfl rfl rfl ?_ | refine sC4 hS rfl rfl rfl ?_)); clear hS; first | ((fail_if_success guard_hyp g1); intro g1 w hS) | ((fail_if_success guard_hyp g2); intro g2 w hS) | ((fail_if_success guard_hyp g3); intro g3 w hS) | ((fail_if_success guard_hyp g4); intro g4 w hS) | ((fail_if_success guard_hyp g5); intro g5 w hS) | fail) | fail)
              refine (cint_st hS).mono ?_
              rintro e w ⟨x1, r3, rfl, hS⟩
              go_wp2_with (first | (refine oP ?_; ((first | refine sP1 hS rfl rfl rfl ?_ | refine sP2 hS rfl rfl rfl ?_ | refine sP3 hS rfl rfl rfl ?_); clear hS; first | ((fail_if_success guard_hyp L1); intro L1 cl1 w hL1 hM1 hS) | ((fail_if_success guard_hyp L2); intro L2 cl2 w hL2 hM2 hS) | ((fail_if_success guard_hyp L3); intro L3 cl3 w hL3 hM3 hS) | ((fail_if_success guard_hyp L4); intro L4 cl4 w hL4 hM4 hS) | ((fail_if_success guard_hyp L5); intro L5 cl5 w hL5 hM5 hS) | fail)) | ((first | (refine oC ?_; first | refine sC0 hS rfl ?_ | refine sC1 hS rfl rfl ?_ | refine sC2 hS rfl rfl ?_ | refine sC3 hS rfl rfl rfl ?_ | refine sC4 hS rfl rfl rfl ?_)); clear hS; first | ((fail_if_success guard_hyp g1); intro g1 w hS) | ((fail_if_success guard_hyp g2); intro g2 w hS) | ((fail_if_success guard_hyp g3); intro g3 w hS) | ((fail_if_success guard_hyp g4); intro g4 w hS) | ((fail_if_success guard_hyp g5); intro g5 w hS) | fail) | fail)
              refine (cint_st hS).mono ?_
              rintro e w ⟨x2, r4, rfl, hS⟩
              go_wp2_with (first | (refine oP ?_; ((first | refine sP1 hS rfl rfl rfl ?_ | refine sP2 hS rfl rfl rfl ?_ | refine sP3 hS rfl rfl rfl ?_); clear hS; first | ((fail_if_success guard_hyp L1); intro L1 cl1 w hL1 hM1 hS) | ((fail_if_success guard_hyp L2); intro L2 cl2 w hL2 hM2 hS) | ((fail_if_success guard_hyp L3); intro L3 cl3 w hL3 hM3 hS) | ((fail_if_success guard_hyp L4); intro L4 cl4 w hL4 hM4 hS) | ((fail_if_success guard_hyp L5); intro L5 cl5 w hL5 hM5 hS) | fail)) | ((first | (refine oC ?_; first | refine sC0 hS rfl ?_ | refine sC1 hS rfl rfl ?_ | refine sC2 hS rfl rfl ?_ | refine sC3 hS rfl rfl rfl ?_ | refine sC4 hS rfl rfl rfl ?_)); clear hS; first | ((fail_if_success guard_hyp g1); intro g1 w hS) | ((fail_if_success guard_hyp g2); intro g2 w hS) | ((fail_if_success guard_hyp g3); intro g3 w hS) | ((fail_if_success guard_hyp g4); intro g4 w hS) | ((fail_if_success guard_hyp g5); intro g5 w hS) | fail) | fail)
              refine (cint_st hS).mono ?_
              rintro e w ⟨x3, r5, rfl, hS⟩
              go_wp2_with (first | (refine oP ?_; ((first | refine sP1 hS rfl rfl rfl ?_ | refine sP2 hS rfl rfl rfl ?_ | refine sP3 hS rfl rfl rfl ?_); clear hS; first | ((fail_if_success guard_hyp L1); intro L1 cl1 w hL1 hM1 hS) | ((fail_if_success guard_hyp L2); intro L2 cl2 w hL2 hM2 hS) | ((fail_if_success guard_hyp L3); intro L3 cl3 w hL3 hM3 hS) | ((fail_if_success guard_hyp L4); intro L4 cl4 w hL4 hM4 hS) | ((fail_if_success guard_hyp L5); intro L5 cl5 w hL5 hM5 hS) | fail)) | ((first | (refine oC ?_; first | refine sC0 hS rfl ?_ | refine sC1 hS rfl rfl ?_ | refine sC2 hS rfl rfl ?_ | refine sC3 hS rfl rfl rfl ?_ | refine sC4 hS rfl rfl rfl ?_)); clear hS; first | ((fail_if_success guard_hyp g1); intro g1 w hS) | ((fail_if_success guard_hyp g2); intro g2 w hS) | ((fail_if_success guard_hyp g3); intro g3 w hS) | ((fail_if_success guard_hyp g4); intro g4 w hS) | ((fail_if_success guard_hyp g5); intro g5 w hS) | fail) | fail)
              go_roundw
              case measure => simp only []; omega
              refine ⟨_, _, m + 1, _, _, by omega, ?_, rfl, mv_end hS⟩
              exact Lib.hid (by rw [List.length_append, HM.out]; rfl)
    · have hlt' : ¬ (m : Int) < 50 := by omega
      have dlt : decide ((m : Int) < 50) = false := decide_eq_false hlt'
      go_upto_region 2 with (first | (refine oP ?_; ((first | refine sP1 hS rfl rfl rfl ?_ | refine sP2 hS rfl rfl rfl ?_ | refine sP3 hS rfl rfl rfl ?_); clear hS; first | ((fail_if_success guard_hyp L1); intro L1 cl1 w hL1 hM1 hS) | ((fail_if_success guard_hyp L2); intro L2 cl2 w hL2 hM2 hS) | ((fail_if_success guard_hyp L3); intro L3 cl3 w hL3 hM3 hS) | ((fail_if_success guard_hyp L4); intro L4 cl4 w hL4 hM4 hS) | ((fail_if_success guard_hyp L5); intro L5 cl5 w hL5 hM5 hS) | fail)) | ((first | (refine oC ?_; first | refine sC0 hS rfl ?_ | refine sC1 hS rfl rfl ?_ | refine sC2 hS rfl rfl ?_ | refine sC3 hS rfl rfl rfl ?_ | refine sC4 hS rfl rfl rfl ?_)); clear hS; first | ((fail_if_success guard_hyp g1); intro g1 w hS) | ((fail_if_success guard_hyp g2); intro g2 w hS) | ((fail_if_success guard_hyp g3); intro g3 w hS) | ((fail_if_success guard_hyp g4); intro g4 w hS) | ((fail_if_success guard_hyp g5); intro g5 w hS) | fail) | fail)
      refine lR ?_
      refine lM rfl rfl ?_
      (try simp only [Act.put, nA, nB, nC])
      refine lP rfl ?_
      (try simp only [Act.put, nA, nB, nC])
      refine lM rfl rfl ?_
      (try simp only [Act.put, nA, nB, nC])
      refine lP rfl ?_
      (try simp only [Act.put, nA, nB, nC])
      refine lM rfl rfl ?_
      (try simp only [Act.put, nA, nB, nC])
      first | refine lQ rfl ?_ | refine lM rfl rfl ?_ | fail
      (try simp only [Act.put, nA, nB, nC])
      first | refine lQ rfl ?_ | (refine ⟨?_⟩; (refine st_call rfl (by kernel_rfl) rfl ?_; go_at_call 40; fail); refine WL.h ?_) | fail
      (try simp only [Act.put, nA, nB, nC])
      refine lP rfl ?_
      (try simp only [Act.put, nA, nB, nC])
      refine lZ ?_
      go_wp2_with (first | (refine oP ?_; ((first | refine sP1 hS rfl rfl rfl ?_ | refine sP2 hS rfl rfl rfl ?_ | refine sP3 hS rfl rfl rfl ?_); clear hS; first | ((fail_if_success guard_hyp L1); intro L1 cl1 w hL1 hM1 hS) | ((fail_if_success guard_hyp L2); intro L2 cl2 w hL2 hM2 hS) | ((fail_if_success guard_hyp L3); intro L3 cl3 w hL3 hM3 hS) | ((fail_if_success guard_hyp L4); intro L4 cl4 w hL4 hM4 hS) | ((fail_if_success guard_hyp L5); intro L5 cl5 w hL5 hM5 hS) | fail)) | ((first | (refine oC ?_; first | refine sC0 hS rfl ?_ | refine sC1 hS rfl rfl ?_ | refine sC2 hS rfl rfl ?_ | refine sC3 hS rfl rfl rfl ?_ | refine sC4 hS rfl rfl rfl ?_)); clear hS; first | ((fail_if_success guard_hyp g1); intro g1 w hS) | ((fail_if_success guard_hyp g2); intro g2 w hS) | ((fail_if_success guard_hyp g3); intro g3 w hS) | ((fail_if_success guard_hyp g4); intro g4 w hS) | ((fail_if_success guard_hyp g5); intro g5 w hS) | fail) | fail)
      go_ret
      exact ⟨L, cl, m, l, r', rfl, HM.out, hm, hS.rowFresh (κ := κ) (r := r'), hS.codes, hS.keep⟩
end Go.Proofs.Ytombhhhaidmpeaa
