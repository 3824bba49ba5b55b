/- image.Compose: what it returns. Conditions: the lists of pages lie in memory, of at most 1000 pages. -/
import Derived.Test.YtmjmdncdmmcmaaaImgH
import Derived.Test.YtmjmdncdmmcmaaaMapI
import Derived.Test.YtmjmdncdmmcmaaaSorts
namespace Go.Proofs.Ytmjmdncdmmcmaaa
open Go.RowKit
set_option linter.unusedVariables false
set_option linter.unusedSimpArgs false
set_option linter.unusedSectionVars false

/-- what the map holds behind the pages of l -/
def MapRep (rep : List Value → Pg → Prop) (m : Int → Option Value) (l : List Pg) : Prop := ∀ k, (lastP l k = none → m k = none) ∧ ∀ p, lastP l k = some p → ∃ v, m k = some (.agg [.int .i64 p.1, v].toArray) ∧ rep [.int .i64 p.1, v] p ∧ v.oneCell' = true
theorem MapRep.nil (rep : List Value → Pg → Prop) : MapRep rep (fun _ => none) [] := fun k => ⟨fun _ => rfl, fun p h => by rw [lastP_nil] at h; cases h⟩
theorem MapRep.put {rep : List Value → Pg → Prop} {m : Int → Option Value} {l : List Pg} (h : MapRep rep m l) {p : Pg} {v : Value} (hp : rep [.int .i64 p.1, v] p) (hv : v.oneCell' = true) : MapRep rep (mput m p.1 (.agg [.int .i64 p.1, v].toArray)) (l ++ [p]) := by
  intro k
  rw [lastP_snoc]
  unfold mput
  by_cases e : p.1 = k
  · rw [if_pos e, if_pos e.symm]
    refine ⟨fun h => by (cases h), fun q hq => ?_⟩
    injection hq with hq
    subst hq
    exact ⟨v, rfl, hp, hv⟩
  · rw [if_neg e, if_neg (fun h => e h.symm)]
    exact h k
theorem take_snocP {l : List Pg} {j : Nat} (h : j < l.length) : l.take (j + 1) = l.take j ++ [l.getD j (0, [])] := by
  rw [List.take_succ_eq_append_getElem h]; simp [h]
section
variable {ops : Array Oper} {Q : Exit → Act → World → Prop} {a : Act} {w w0 : World} {M : Nat → Prop} {cs fx : List (Chunk w0 M)} {f : Chunk w0 M → List (Chunk w0 M)} {rest : List Oper} {d : Option Tmp} {tt t e : TypeId} {pos : String} {af : Array Edge} {gd : Option (Nat × Bool)} {x y z : Operand} {g : Nat} {i : Int} {m : Int → Option Value} {v zv : Value}
theorem sK4 (hS : St w0 M cs w) [hT : MapT Try.prog t e zv] (hw : Region.wanted ⟨d, .lookup t x y false, tt, pos, af, gd⟩ (yielded ops a.tmps) = true) (hx' : oval a x = some (.map (some g))) (hy' : oval a y = some (.int .i64 i)) [hp : PickM g cs m f] (hm : m i = some v) (k : wpList Try.prog ops Q rest (a.put d v) w) :
    wpList Try.prog ops Q (⟨d, .lookup t x y false, tt, pos, af, gd⟩ :: rest) a w := st_run hw (by have := look_one (t := t) (e := e) (zv := zv) (tt := tt) (pos := pos) (af := af) (gd := gd) (d := d) hx' hy' hS.mapAt; rw [mget, hm] at this; exact this) k
end
theorem run_idx2 (A B : Option Addr) (n c m d : Nat) (w : World) : (Instr.index 71 (.agg #[.slice A n c, .slice B m d]) (.int .i64 0)).run Try.prog w = .ok (.slice A n c) w ∧ (Instr.index 71 (.agg #[.slice A n c, .slice B m d]) (.int .i64 1)).run Try.prog w = .ok (.slice B m d) w := by
  constructor <;> simp [Instr.index, run_underlying Try.underlying71, asIntOf, part, run_sizeOf (P := Try.prog) (t := 22) (n := 1) (by kernel_rfl), run_isAgg1 (P := Try.prog) (t := 22) ⟨by kernel_rfl, by kernel_rfl⟩, Sem.run_bind]
set_option maxRecDepth 100000 in
set_option maxHeartbeats 3200000 in
theorem compose_any {S T : Nat → Prop} {rep : List Value → Pg → Prop} (hR : PgR rep) (A B : Option Addr) (c d : Nat) (xs ys : List Pg) (us vs : List Value) (w0 : World) (hA : RV S w0 A us) (hxs : Reps rep 2 us xs) (hB : RV T w0 B vs) (hys : Reps rep 2 vs ys) (hx : xs.length ≤ 1000) (hy : ys.length ≤ 1000) :
    Calls Try.prog 14 #[.slice A xs.length c, .slice B ys.length d] w0 (RetPg rep w0 (compL (xs ++ ys))) := by
  have hS := St.start w0 NoM
  have q0 := fun w => (run_idx2 A B xs.length c ys.length d w).1
  have q1 := fun w => (run_idx2 A B xs.length c ys.length d w).2
  have HP := Lib.hid (And.intro hR (And.intro hA (And.intro hxs (And.intro hB hys))))
  clear hR hA hxs hB hys
  go_enter Try.func14, Try.ntmps14
  go_wp2_with (first | (refine oL ?_; (first | refine sL1 hS rfl rfl rfl ?_ | refine sL2 hS rfl rfl rfl ?_ | refine sL3 hS rfl rfl ?_ | refine sL4 hS rfl rfl ?_ | refine sL5 hS rfl rfl ?_ | refine sL6 hS rfl rfl ?_ | refine sL7 hS rfl rfl ?_)) | (refine oS ?_; ((first | refine sS1 hS rfl rfl rfl ?_ | refine sS2 hS rfl rfl rfl ?_ | refine sS3 hS rfl rfl rfl ?_ | refine sS4 hS rfl rfl rfl ?_ | refine sS5 hS rfl rfl rfl ?_); clear hS; intro w hS)) | (refine oK ?_; (first | refine sK1 hS rfl rfl rfl ?_ | refine sK2 hS rfl rfl rfl ?_ | refine sK3 hS rfl rfl rfl ?_)) | (refine oU ?_; (refine sU1 hS rfl rfl rfl rfl ?_; clear hS; intro w hS)) | (skip; (refine sW1 hS rfl ?_; clear hS; first | ((fail_if_success guard_hyp g1); intro g1 w hS) | ((fail_if_success guard_hyp g2); intro g2 w hS) | ((fail_if_success guard_hyp g3); intro g3 w hS) | ((fail_if_success guard_hyp g4); intro g4 w hS) | ((fail_if_success guard_hyp g5); intro g5 w hS) | ((fail_if_success guard_hyp g6); intro g6 w hS) | fail)) | (refine oP ?_; ((first | refine sP1 hS rfl rfl rfl ?_ | refine sP2 hS rfl rfl rfl ?_ | refine sP3 hS rfl rfl rfl ?_); clear hS; first | ((fail_if_success guard_hyp L1); intro L1 cl1 w hL1 hM1 hS) | ((fail_if_success guard_hyp L2); intro L2 cl2 w hL2 hM2 hS) | ((fail_if_success guard_hyp L3); intro L3 cl3 w hL3 hM3 hS) | fail)) | ((first | refine sN1 hS rfl ?_ | (refine oC ?_; first | refine sC0 hS rfl ?_ | refine sC1 hS rfl rfl ?_ | refine sC2 hS rfl rfl ?_ | refine sC3 hS rfl rfl rfl ?_ | refine sC4 hS rfl rfl rfl ?_)); clear hS; first | ((fail_if_success guard_hyp g1); intro g1 w hS) | ((fail_if_success guard_hyp g2); intro g2 w hS) | ((fail_if_success guard_hyp g3); intro g3 w hS) | ((fail_if_success guard_hyp g4); intro g4 w hS) | ((fail_if_success guard_hyp g5); intro g5 w hS) | ((fail_if_success guard_hyp g6); intro g6 w hS) | fail) | fail)
  replace hS := (hS.addNil 3 1)
  go_loopw [6, 8, 10, 11, 12, 20] (fun s6 s8 s10 s11 s12 s20 wr => ∃ (k c6 : Nat) (L : Option Addr) (m : Int → Option Value) (ns : List Int), k ≤ 2 ∧ s20 = .int .i64 k ∧ s6 = .slice L ns.length c6 ∧ Hid (MapRep rep m (if k = 0 then [] else if k = 1 then xs else xs ++ ys) ∧ ns = nums (if k = 0 then [] else if k = 1 then xs else xs ++ ys)) ∧ St w0 NoM [irow 3 L c6 ns, mpc g1 m] wr) (fun _ _ _ _ _ s20 _ => 2 - (intOf s20).toNat)
  case atStart => exact ⟨0, 0, none, fun _ => none, [], by omega, rfl, rfl, Lib.hid ⟨MapRep.nil rep, rfl⟩, hS⟩
  case round =>
    clear hS
    obtain ⟨k, c6, L, m, ns, hk, hk20, rfl, HM, hS⟩ := hrel
    match k, hk, hk20 with
    | 0, _, hk20 =>
      replace hk20 : _ = Value.int .i64 (0 : Int) := hk20
      subst hk20
      rw [if_pos rfl] at HM
      have HN0 := Lib.hid (show ns.length ≤ 1000 by rw [HM.out.2]; simp [nums])
      go_wp2_with (first | (refine oL ?_; (first | refine sL1 hS rfl rfl rfl ?_ | refine sL2 hS rfl rfl rfl ?_ | refine sL3 hS rfl rfl ?_ | refine sL4 hS rfl rfl ?_ | refine sL5 hS rfl rfl ?_ | refine sL6 hS rfl rfl ?_ | refine sL7 hS rfl rfl ?_)) | (refine oS ?_; ((first | refine sS1 hS rfl rfl rfl ?_ | refine sS2 hS rfl rfl rfl ?_ | refine sS3 hS rfl rfl rfl ?_ | refine sS4 hS rfl rfl rfl ?_ | refine sS5 hS rfl rfl rfl ?_); clear hS; intro w hS)) | (refine oK ?_; (first | refine sK1 hS rfl rfl rfl ?_ | refine sK2 hS rfl rfl rfl ?_ | refine sK3 hS rfl rfl rfl ?_)) | (refine oU ?_; (refine sU1 hS rfl rfl rfl rfl ?_; clear hS; intro w hS)) | (skip; (refine sW1 hS rfl ?_; clear hS; first | ((fail_if_success guard_hyp g1); intro g1 w hS) | ((fail_if_success guard_hyp g2); intro g2 w hS) | ((fail_if_success guard_hyp g3); intro g3 w hS) | ((fail_if_success guard_hyp g4); intro g4 w hS) | ((fail_if_success guard_hyp g5); intro g5 w hS) | ((fail_if_success guard_hyp g6); intro g6 w hS) | fail)) | (refine oP ?_; ((first | refine sP1 hS rfl rfl rfl ?_ | refine sP2 hS rfl rfl rfl ?_ | refine sP3 hS rfl rfl rfl ?_); clear hS; first | ((fail_if_success guard_hyp L1); intro L1 cl1 w hL1 hM1 hS) | ((fail_if_success guard_hyp L2); intro L2 cl2 w hL2 hM2 hS) | ((fail_if_success guard_hyp L3); intro L3 cl3 w hL3 hM3 hS) | fail)) | ((first | refine sN1 hS rfl ?_ | (refine oC ?_; first | refine sC0 hS rfl ?_ | refine sC1 hS rfl rfl ?_ | refine sC2 hS rfl rfl ?_ | refine sC3 hS rfl rfl rfl ?_ | refine sC4 hS rfl rfl rfl ?_)); clear hS; first | ((fail_if_success guard_hyp g1); intro g1 w hS) | ((fail_if_success guard_hyp g2); intro g2 w hS) | ((fail_if_success guard_hyp g3); intro g3 w hS) | ((fail_if_success guard_hyp g4); intro g4 w hS) | ((fail_if_success guard_hyp g5); intro g5 w hS) | ((fail_if_success guard_hyp g6); intro g6 w hS) | fail) | fail)
      have hn0 := HN0.out
      have HL0 := Lib.hid (nums_length (([] : List Pg)))
      go_loopw [6, 10, 11, 12, 25] (fun s6 s10 s11 s12 s25 wr => ∃ (j c6 n : Nat) (L : Option Addr) (m : Int → Option Value) (ns : List Int), j ≤ xs.length ∧ s25 = .int .i64 j ∧ s6 = .slice L ns.length c6 ∧ ns.length ≤ 1000 + j ∧ Hid (MapRep rep m (([] : List Pg) ++ xs.take j) ∧ ns = nums (([] : List Pg) ++ xs.take j)) ∧ St w0 NoM [irow 3 L c6 ns, mpc g1 m] wr) (fun _ _ _ _ s25 _ => xs.length - (intOf s25).toNat)
      case atStart => exact ⟨0, c6, 0, L, m, ns, by omega, rfl, rfl, by omega, Lib.hid (by rw [List.take_zero, List.append_nil]; exact HM.out), hS⟩
      case round =>
        clear hS HM
        obtain ⟨j, c6, n, L, m, ns, hj, rfl, rfl, hnl, HM, hS⟩ := hrel
        by_cases hjl : j < xs.length
        · have hjl' : (j : Int) < xs.length := by omega
          obtain ⟨b, o, v, hBB, _, hc0, hcs, hv, hrep⟩ := pg_cells HP.out.1 HP.out.2.1 HP.out.2.2.1 hjl
          subst hBB
          have HTK := Lib.hid (show ([] : List Pg) ++ xs.take (j + 1) = (([] : List Pg) ++ xs.take j) ++ [xs.getD j (0, [])] by rw [take_snocP hjl, List.append_assoc])
          have HPUT := Lib.hid (HM.out.1.put hrep hv)
          have HNS := Lib.hid (nums_snoc (([] : List Pg) ++ xs.take j) (xs.getD j (0, [])))
          have HNM := Lib.hid (nums_mem (([] : List Pg) ++ xs.take j) (xs.getD j (0, [])).1)
          have HMK := Lib.hid (HM.out.1 (xs.getD j (0, [])).1)
          clear hrep
          generalize xs.getD j (0, []) = p at *
          cases hlk : lastP (([] : List Pg) ++ xs.take j) p.1 with
          | none =>
            have hmk := HMK.out.1 hlk
            have HNN := Lib.hid (show nums (([] : List Pg) ++ xs.take (j + 1)) = ns ++ [p.1] by rw [HTK.out, HNS.out, if_neg (fun h => HNM.out.1 h hlk), ← HM.out.2])
            have HHM := Lib.hid (show MapRep rep (mput m p.1 (.agg [.int .i64 p.1, v].toArray)) (([] : List Pg) ++ xs.take (j + 1)) by rw [HTK.out]; exact HPUT.out)
            clear hlk HTK HPUT HNS HNM HMK HM
            generalize p.1 = pn at *
            go_wp2_with (first | (refine oS ?_; refine sS4 hS rfl rfl rfl ?_ (by rfl) (one2 hv) (by rfl); clear hS; intro w hS) | (refine oL ?_; (first | refine sL1 hS rfl rfl rfl ?_ | refine sL2 hS rfl rfl rfl ?_ | refine sL3 hS rfl rfl ?_ | refine sL4 hS rfl rfl ?_ | refine sL5 hS rfl rfl ?_ | refine sL6 hS rfl rfl ?_ | refine sL7 hS rfl rfl ?_)) | (refine oS ?_; ((first | refine sS1 hS rfl rfl rfl ?_ | refine sS2 hS rfl rfl rfl ?_ | refine sS3 hS rfl rfl rfl ?_ | refine sS4 hS rfl rfl rfl ?_ | refine sS5 hS rfl rfl rfl ?_); clear hS; intro w hS)) | (refine oK ?_; (first | refine sK1 hS rfl rfl rfl ?_ | refine sK2 hS rfl rfl rfl ?_ | refine sK3 hS rfl rfl rfl ?_)) | (refine oU ?_; (refine sU1 hS rfl rfl rfl rfl ?_; clear hS; intro w hS)) | (skip; (refine sW1 hS rfl ?_; clear hS; first | ((fail_if_success guard_hyp g1); intro g1 w hS) | ((fail_if_success guard_hyp g2); intro g2 w hS) | ((fail_if_success guard_hyp g3); intro g3 w hS) | ((fail_if_success guard_hyp g4); intro g4 w hS) | ((fail_if_success guard_hyp g5); intro g5 w hS) | ((fail_if_success guard_hyp g6); intro g6 w hS) | fail)) | (refine oP ?_; ((first | refine sP1 hS rfl rfl rfl ?_ | refine sP2 hS rfl rfl rfl ?_ | refine sP3 hS rfl rfl rfl ?_); clear hS; first | ((fail_if_success guard_hyp L1); intro L1 cl1 w hL1 hM1 hS) | ((fail_if_success guard_hyp L2); intro L2 cl2 w hL2 hM2 hS) | ((fail_if_success guard_hyp L3); intro L3 cl3 w hL3 hM3 hS) | fail)) | ((first | refine sN1 hS rfl ?_ | (refine oC ?_; first | refine sC0 hS rfl ?_ | refine sC1 hS rfl rfl ?_ | refine sC2 hS rfl rfl ?_ | refine sC3 hS rfl rfl rfl ?_ | refine sC4 hS rfl rfl rfl ?_)); clear hS; first | ((fail_if_success guard_hyp g1); intro g1 w hS) | ((fail_if_success guard_hyp g2); intro g2 w hS) | ((fail_if_success guard_hyp g3); intro g3 w hS) | ((fail_if_success guard_hyp g4); intro g4 w hS) | ((fail_if_success guard_hyp g5); intro g5 w hS) | ((fail_if_success guard_hyp g6); intro g6 w hS) | fail) | fail)
            go_roundw
            case measure => simp [intOf]; try omega
            exact ⟨j + 1, cl1, 0, L1, _, ns ++ [pn], by omega, by go_num, by simp, by simp; omega, Lib.hid ⟨HHM.out, HNN.out.symm⟩, hS.re⟩
          | some q =>
            obtain ⟨v2, hmk, hrq, hv2⟩ := HMK.out.2 q hlk
            have HNN := Lib.hid (show nums (([] : List Pg) ++ xs.take (j + 1)) = ns by rw [HTK.out, HNS.out, if_pos (HNM.out.2 (by rw [hlk]; simp)), ← HM.out.2])
            have HHM := Lib.hid (show MapRep rep (mput m p.1 (.agg [.int .i64 p.1, v].toArray)) (([] : List Pg) ++ xs.take (j + 1)) by rw [HTK.out]; exact HPUT.out)
            clear hlk HTK HPUT HNS HNM HMK HM hrq
            generalize p.1 = pn at *
            generalize q.1 = qn at *
            go_wp2_with (first | (refine oS ?_; (first | refine sS4 hS rfl rfl rfl ?_ (by rfl) (one2 hv) (by rfl) | refine sS4 hS rfl rfl rfl ?_ (by rfl) (one2 hv2) (by rfl)); clear hS; intro w hS) | (refine oL ?_; (first | refine sL1 hS rfl rfl rfl ?_ | refine sL2 hS rfl rfl rfl ?_ | refine sL3 hS rfl rfl ?_ | refine sL4 hS rfl rfl ?_ | refine sL5 hS rfl rfl ?_ | refine sL6 hS rfl rfl ?_ | refine sL7 hS rfl rfl ?_)) | (refine oS ?_; ((first | refine sS1 hS rfl rfl rfl ?_ | refine sS2 hS rfl rfl rfl ?_ | refine sS3 hS rfl rfl rfl ?_ | refine sS4 hS rfl rfl rfl ?_ | refine sS5 hS rfl rfl rfl ?_); clear hS; intro w hS)) | (refine oK ?_; (first | refine sK1 hS rfl rfl rfl ?_ | refine sK2 hS rfl rfl rfl ?_ | refine sK3 hS rfl rfl rfl ?_)) | (refine oU ?_; (refine sU1 hS rfl rfl rfl rfl ?_; clear hS; intro w hS)) | (skip; (refine sW1 hS rfl ?_; clear hS; first | ((fail_if_success guard_hyp g1); intro g1 w hS) | ((fail_if_success guard_hyp g2); intro g2 w hS) | ((fail_if_success guard_hyp g3); intro g3 w hS) | ((fail_if_success guard_hyp g4); intro g4 w hS) | ((fail_if_success guard_hyp g5); intro g5 w hS) | ((fail_if_success guard_hyp g6); intro g6 w hS) | fail)) | (refine oP ?_; ((first | refine sP1 hS rfl rfl rfl ?_ | refine sP2 hS rfl rfl rfl ?_ | refine sP3 hS rfl rfl rfl ?_); clear hS; first | ((fail_if_success guard_hyp L1); intro L1 cl1 w hL1 hM1 hS) | ((fail_if_success guard_hyp L2); intro L2 cl2 w hL2 hM2 hS) | ((fail_if_success guard_hyp L3); intro L3 cl3 w hL3 hM3 hS) | fail)) | ((first | refine sN1 hS rfl ?_ | (refine oC ?_; first | refine sC0 hS rfl ?_ | refine sC1 hS rfl rfl ?_ | refine sC2 hS rfl rfl ?_ | refine sC3 hS rfl rfl rfl ?_ | refine sC4 hS rfl rfl rfl ?_)); clear hS; first | ((fail_if_success guard_hyp g1); intro g1 w hS) | ((fail_if_success guard_hyp g2); intro g2 w hS) | ((fail_if_success guard_hyp g3); intro g3 w hS) | ((fail_if_success guard_hyp g4); intro g4 w hS) | ((fail_if_success guard_hyp g5); intro g5 w hS) | ((fail_if_success guard_hyp g6); intro g6 w hS) | fail) | fail)
            go_roundw
            case measure => simp [intOf]; try omega
            exact ⟨j + 1, _, 0, _, _, ns, by omega, by go_num, rfl, by omega, Lib.hid ⟨HHM.out, HNN.out.symm⟩, hS.re⟩
        · have HE := Lib.hid (show xs.take j = xs from List.take_of_length_le (by omega))
          have hjl' : ¬ (j : Int) < xs.length := by omega
          rw [show xs.take j = xs from HE.out] at HM
          go_wp2_with (first | (refine oL ?_; (first | refine sL1 hS rfl rfl rfl ?_ | refine sL2 hS rfl rfl rfl ?_ | refine sL3 hS rfl rfl ?_ | refine sL4 hS rfl rfl ?_ | refine sL5 hS rfl rfl ?_ | refine sL6 hS rfl rfl ?_ | refine sL7 hS rfl rfl ?_)) | (refine oS ?_; ((first | refine sS1 hS rfl rfl rfl ?_ | refine sS2 hS rfl rfl rfl ?_ | refine sS3 hS rfl rfl rfl ?_ | refine sS4 hS rfl rfl rfl ?_ | refine sS5 hS rfl rfl rfl ?_); clear hS; intro w hS)) | (refine oK ?_; (first | refine sK1 hS rfl rfl rfl ?_ | refine sK2 hS rfl rfl rfl ?_ | refine sK3 hS rfl rfl rfl ?_)) | (refine oU ?_; (refine sU1 hS rfl rfl rfl rfl ?_; clear hS; intro w hS)) | (skip; (refine sW1 hS rfl ?_; clear hS; first | ((fail_if_success guard_hyp g1); intro g1 w hS) | ((fail_if_success guard_hyp g2); intro g2 w hS) | ((fail_if_success guard_hyp g3); intro g3 w hS) | ((fail_if_success guard_hyp g4); intro g4 w hS) | ((fail_if_success guard_hyp g5); intro g5 w hS) | ((fail_if_success guard_hyp g6); intro g6 w hS) | fail)) | (refine oP ?_; ((first | refine sP1 hS rfl rfl rfl ?_ | refine sP2 hS rfl rfl rfl ?_ | refine sP3 hS rfl rfl rfl ?_); clear hS; first | ((fail_if_success guard_hyp L1); intro L1 cl1 w hL1 hM1 hS) | ((fail_if_success guard_hyp L2); intro L2 cl2 w hL2 hM2 hS) | ((fail_if_success guard_hyp L3); intro L3 cl3 w hL3 hM3 hS) | fail)) | ((first | refine sN1 hS rfl ?_ | (refine oC ?_; first | refine sC0 hS rfl ?_ | refine sC1 hS rfl rfl ?_ | refine sC2 hS rfl rfl ?_ | refine sC3 hS rfl rfl rfl ?_ | refine sC4 hS rfl rfl rfl ?_)); clear hS; first | ((fail_if_success guard_hyp g1); intro g1 w hS) | ((fail_if_success guard_hyp g2); intro g2 w hS) | ((fail_if_success guard_hyp g3); intro g3 w hS) | ((fail_if_success guard_hyp g4); intro g4 w hS) | ((fail_if_success guard_hyp g5); intro g5 w hS) | ((fail_if_success guard_hyp g6); intro g6 w hS) | fail) | fail)
          go_roundw
          case measure => simp [intOf]; try omega
          exact ⟨1, c6, L, m, ns, by omega, by go_num, rfl, Lib.hid (by simpa using HM.out), hS⟩
    | 1, _, hk20 =>
      replace hk20 : _ = Value.int .i64 (1 : Int) := hk20
      subst hk20
      rw [if_neg (by decide), if_pos rfl] at HM
      have HN0 := Lib.hid (show ns.length ≤ 1000 by rw [HM.out.2]; have := nums_length xs; omega)
      go_wp2_with (first | (refine oL ?_; (first | refine sL1 hS rfl rfl rfl ?_ | refine sL2 hS rfl rfl rfl ?_ | refine sL3 hS rfl rfl ?_ | refine sL4 hS rfl rfl ?_ | refine sL5 hS rfl rfl ?_ | refine sL6 hS rfl rfl ?_ | refine sL7 hS rfl rfl ?_)) | (refine oS ?_; ((first | refine sS1 hS rfl rfl rfl ?_ | refine sS2 hS rfl rfl rfl ?_ | refine sS3 hS rfl rfl rfl ?_ | refine sS4 hS rfl rfl rfl ?_ | refine sS5 hS rfl rfl rfl ?_); clear hS; intro w hS)) | (refine oK ?_; (first | refine sK1 hS rfl rfl rfl ?_ | refine sK2 hS rfl rfl rfl ?_ | refine sK3 hS rfl rfl rfl ?_)) | (refine oU ?_; (refine sU1 hS rfl rfl rfl rfl ?_; clear hS; intro w hS)) | (skip; (refine sW1 hS rfl ?_; clear hS; first | ((fail_if_success guard_hyp g1); intro g1 w hS) | ((fail_if_success guard_hyp g2); intro g2 w hS) | ((fail_if_success guard_hyp g3); intro g3 w hS) | ((fail_if_success guard_hyp g4); intro g4 w hS) | ((fail_if_success guard_hyp g5); intro g5 w hS) | ((fail_if_success guard_hyp g6); intro g6 w hS) | fail)) | (refine oP ?_; ((first | refine sP1 hS rfl rfl rfl ?_ | refine sP2 hS rfl rfl rfl ?_ | refine sP3 hS rfl rfl rfl ?_); clear hS; first | ((fail_if_success guard_hyp L1); intro L1 cl1 w hL1 hM1 hS) | ((fail_if_success guard_hyp L2); intro L2 cl2 w hL2 hM2 hS) | ((fail_if_success guard_hyp L3); intro L3 cl3 w hL3 hM3 hS) | fail)) | ((first | refine sN1 hS rfl ?_ | (refine oC ?_; first | refine sC0 hS rfl ?_ | refine sC1 hS rfl rfl ?_ | refine sC2 hS rfl rfl ?_ | refine sC3 hS rfl rfl rfl ?_ | refine sC4 hS rfl rfl rfl ?_)); clear hS; first | ((fail_if_success guard_hyp g1); intro g1 w hS) | ((fail_if_success guard_hyp g2); intro g2 w hS) | ((fail_if_success guard_hyp g3); intro g3 w hS) | ((fail_if_success guard_hyp g4); intro g4 w hS) | ((fail_if_success guard_hyp g5); intro g5 w hS) | ((fail_if_success guard_hyp g6); intro g6 w hS) | fail) | fail)
      have hn0 := HN0.out
      have HL0 := Lib.hid (nums_length (xs))
      go_loopw [6, 10, 11, 12, 25] (fun s6 s10 s11 s12 s25 wr => ∃ (j c6 n : Nat) (L : Option Addr) (m : Int → Option Value) (ns : List Int), j ≤ ys.length ∧ s25 = .int .i64 j ∧ s6 = .slice L ns.length c6 ∧ ns.length ≤ 1000 + j ∧ Hid (MapRep rep m (xs ++ ys.take j) ∧ ns = nums (xs ++ ys.take j)) ∧ St w0 NoM [irow 3 L c6 ns, mpc g1 m] wr) (fun _ _ _ _ s25 _ => ys.length - (intOf s25).toNat)
      case atStart => exact ⟨0, c6, 0, L, m, ns, by omega, rfl, rfl, by omega, Lib.hid (by rw [List.take_zero, List.append_nil]; exact HM.out), hS⟩
      case round =>
        clear hS HM
        obtain ⟨j, c6, n, L, m, ns, hj, rfl, rfl, hnl, HM, hS⟩ := hrel
        by_cases hjl : j < ys.length
        · have hjl' : (j : Int) < ys.length := by omega
          obtain ⟨b, o, v, hBB, _, hc0, hcs, hv, hrep⟩ := pg_cells HP.out.1 HP.out.2.2.2.1 HP.out.2.2.2.2 hjl
          subst hBB
          have HTK := Lib.hid (show xs ++ ys.take (j + 1) = (xs ++ ys.take j) ++ [ys.getD j (0, [])] by rw [take_snocP hjl, List.append_assoc])
          have HPUT := Lib.hid (HM.out.1.put hrep hv)
          have HNS := Lib.hid (nums_snoc (xs ++ ys.take j) (ys.getD j (0, [])))
          have HNM := Lib.hid (nums_mem (xs ++ ys.take j) (ys.getD j (0, [])).1)
          have HMK := Lib.hid (HM.out.1 (ys.getD j (0, [])).1)
          clear hrep
          generalize ys.getD j (0, []) = p at *
          cases hlk : lastP (xs ++ ys.take j) p.1 with
          | none =>
            have hmk := HMK.out.1 hlk
            have HNN := Lib.hid (show nums (xs ++ ys.take (j + 1)) = ns ++ [p.1] by rw [HTK.out, HNS.out, if_neg (fun h => HNM.out.1 h hlk), ← HM.out.2])
            have HHM := Lib.hid (show MapRep rep (mput m p.1 (.agg [.int .i64 p.1, v].toArray)) (xs ++ ys.take (j + 1)) by rw [HTK.out]; exact HPUT.out)
            clear hlk HTK HPUT HNS HNM HMK HM
            generalize p.1 = pn at *
            go_wp2_with (first | (refine oS ?_; refine sS4 hS rfl rfl rfl ?_ (by rfl) (one2 hv) (by rfl); clear hS; intro w hS) | (refine oL ?_; (first | refine sL1 hS rfl rfl rfl ?_ | refine sL2 hS rfl rfl rfl ?_ | refine sL3 hS rfl rfl ?_ | refine sL4 hS rfl rfl ?_ | refine sL5 hS rfl rfl ?_ | refine sL6 hS rfl rfl ?_ | refine sL7 hS rfl rfl ?_)) | (refine oS ?_; ((first | refine sS1 hS rfl rfl rfl ?_ | refine sS2 hS rfl rfl rfl ?_ | refine sS3 hS rfl rfl rfl ?_ | refine sS4 hS rfl rfl rfl ?_ | refine sS5 hS rfl rfl rfl ?_); clear hS; intro w hS)) | (refine oK ?_; (first | refine sK1 hS rfl rfl rfl ?_ | refine sK2 hS rfl rfl rfl ?_ | refine sK3 hS rfl rfl rfl ?_)) | (refine oU ?_; (refine sU1 hS rfl rfl rfl rfl ?_; clear hS; intro w hS)) | (skip; (refine sW1 hS rfl ?_; clear hS; first | ((fail_if_success guard_hyp g1); intro g1 w hS) | ((fail_if_success guard_hyp g2); intro g2 w hS) | ((fail_if_success guard_hyp g3); intro g3 w hS) | ((fail_if_success guard_hyp g4); intro g4 w hS) | ((fail_if_success guard_hyp g5); intro g5 w hS) | ((fail_if_success guard_hyp g6); intro g6 w hS) | fail)) | (refine oP ?_; ((first | refine sP1 hS rfl rfl rfl ?_ | refine sP2 hS rfl rfl rfl ?_ | refine sP3 hS rfl rfl rfl ?_); clear hS; first | ((fail_if_success guard_hyp L1); intro L1 cl1 w hL1 hM1 hS) | ((fail_if_success guard_hyp L2); intro L2 cl2 w hL2 hM2 hS) | ((fail_if_success guard_hyp L3); intro L3 cl3 w hL3 hM3 hS) | fail)) | ((first | refine sN1 hS rfl ?_ | (refine oC ?_; first | refine sC0 hS rfl ?_ | refine sC1 hS rfl rfl ?_ | refine sC2 hS rfl rfl ?_ | refine sC3 hS rfl rfl rfl ?_ | refine sC4 hS rfl rfl rfl ?_)); clear hS; first | ((fail_if_success guard_hyp g1); intro g1 w hS) | ((fail_if_success guard_hyp g2); intro g2 w hS) | ((fail_if_success guard_hyp g3); intro g3 w hS) | ((fail_if_success guard_hyp g4); intro g4 w hS) | ((fail_if_success guard_hyp g5); intro g5 w hS) | ((fail_if_success guard_hyp g6); intro g6 w hS) | fail) | fail)
            go_roundw
            case measure => simp [intOf]; try omega
            exact ⟨j + 1, cl1, 0, L1, _, ns ++ [pn], by omega, by go_num, by simp, by simp; omega, Lib.hid ⟨HHM.out, HNN.out.symm⟩, hS.re⟩
          | some q =>
            obtain ⟨v2, hmk, hrq, hv2⟩ := HMK.out.2 q hlk
            have HNN := Lib.hid (show nums (xs ++ ys.take (j + 1)) = ns by rw [HTK.out, HNS.out, if_pos (HNM.out.2 (by rw [hlk]; simp)), ← HM.out.2])
            have HHM := Lib.hid (show MapRep rep (mput m p.1 (.agg [.int .i64 p.1, v].toArray)) (xs ++ ys.take (j + 1)) by rw [HTK.out]; exact HPUT.out)
            clear hlk HTK HPUT HNS HNM HMK HM hrq
            generalize p.1 = pn at *
            generalize q.1 = qn at *
            go_wp2_with (first | (refine oS ?_; (first | refine sS4 hS rfl rfl rfl ?_ (by rfl) (one2 hv) (by rfl) | refine sS4 hS rfl rfl rfl ?_ (by rfl) (one2 hv2) (by rfl)); clear hS; intro w hS) | (refine oL ?_; (first | refine sL1 hS rfl rfl rfl ?_ | refine sL2 hS rfl rfl rfl ?_ | refine sL3 hS rfl rfl ?_ | refine sL4 hS rfl rfl ?_ | refine sL5 hS rfl rfl ?_ | refine sL6 hS rfl rfl ?_ | refine sL7 hS rfl rfl ?_)) | (refine oS ?_; ((first | refine sS1 hS rfl rfl rfl ?_ | refine sS2 hS rfl rfl rfl ?_ | refine sS3 hS rfl rfl rfl ?_ | refine sS4 hS rfl rfl rfl ?_ | refine sS5 hS rfl rfl rfl ?_); clear hS; intro w hS)) | (refine oK ?_; (first | refine sK1 hS rfl rfl rfl ?_ | refine sK2 hS rfl rfl rfl ?_ | refine sK3 hS rfl rfl rfl ?_)) | (refine oU ?_; (refine sU1 hS rfl rfl rfl rfl ?_; clear hS; intro w hS)) | (skip; (refine sW1 hS rfl ?_; clear hS; first | ((fail_if_success guard_hyp g1); intro g1 w hS) | ((fail_if_success guard_hyp g2); intro g2 w hS) | ((fail_if_success guard_hyp g3); intro g3 w hS) | ((fail_if_success guard_hyp g4); intro g4 w hS) | ((fail_if_success guard_hyp g5); intro g5 w hS) | ((fail_if_success guard_hyp g6); intro g6 w hS) | fail)) | (refine oP ?_; ((first | refine sP1 hS rfl rfl rfl ?_ | refine sP2 hS rfl rfl rfl ?_ | refine sP3 hS rfl rfl rfl ?_); clear hS; first | ((fail_if_success guard_hyp L1); intro L1 cl1 w hL1 hM1 hS) | ((fail_if_success guard_hyp L2); intro L2 cl2 w hL2 hM2 hS) | ((fail_if_success guard_hyp L3); intro L3 cl3 w hL3 hM3 hS) | fail)) | ((first | refine sN1 hS rfl ?_ | (refine oC ?_; first | refine sC0 hS rfl ?_ | refine sC1 hS rfl rfl ?_ | refine sC2 hS rfl rfl ?_ | refine sC3 hS rfl rfl rfl ?_ | refine sC4 hS rfl rfl rfl ?_)); clear hS; first | ((fail_if_success guard_hyp g1); intro g1 w hS) | ((fail_if_success guard_hyp g2); intro g2 w hS) | ((fail_if_success guard_hyp g3); intro g3 w hS) | ((fail_if_success guard_hyp g4); intro g4 w hS) | ((fail_if_success guard_hyp g5); intro g5 w hS) | ((fail_if_success guard_hyp g6); intro g6 w hS) | fail) | fail)
            go_roundw
            case measure => simp [intOf]; try omega
            exact ⟨j + 1, _, 0, _, _, ns, by omega, by go_num, rfl, by omega, Lib.hid ⟨HHM.out, HNN.out.symm⟩, hS.re⟩
        · have HE := Lib.hid (show ys.take j = ys from List.take_of_length_le (by omega))
          have hjl' : ¬ (j : Int) < ys.length := by omega
          rw [show ys.take j = ys from HE.out] at HM
          go_wp2_with (first | (refine oL ?_; (first | refine sL1 hS rfl rfl rfl ?_ | refine sL2 hS rfl rfl rfl ?_ | refine sL3 hS rfl rfl ?_ | refine sL4 hS rfl rfl ?_ | refine sL5 hS rfl rfl ?_ | refine sL6 hS rfl rfl ?_ | refine sL7 hS rfl rfl ?_)) | (refine oS ?_; ((first | refine sS1 hS rfl rfl rfl ?_ | refine sS2 hS rfl rfl rfl ?_ | refine sS3 hS rfl rfl rfl ?_ | refine sS4 hS rfl rfl rfl ?_ | refine sS5 hS rfl rfl rfl ?_); clear hS; intro w hS)) | (refine oK ?_; (first | refine sK1 hS rfl rfl rfl ?_ | refine sK2 hS rfl rfl rfl ?_ | refine sK3 hS rfl rfl rfl ?_)) | (refine oU ?_; (refine sU1 hS rfl rfl rfl rfl ?_; clear hS; intro w hS)) | (skip; (refine sW1 hS rfl ?_; clear hS; first | ((fail_if_success guard_hyp g1); intro g1 w hS) | ((fail_if_success guard_hyp g2); intro g2 w hS) | ((fail_if_success guard_hyp g3); intro g3 w hS) | ((fail_if_success guard_hyp g4); intro g4 w hS) | ((fail_if_success guard_hyp g5); intro g5 w hS) | ((fail_if_success guard_hyp g6); intro g6 w hS) | fail)) | (refine oP ?_; ((first | refine sP1 hS rfl rfl rfl ?_ | refine sP2 hS rfl rfl rfl ?_ | refine sP3 hS rfl rfl rfl ?_); clear hS; first | ((fail_if_success guard_hyp L1); intro L1 cl1 w hL1 hM1 hS) | ((fail_if_success guard_hyp L2); intro L2 cl2 w hL2 hM2 hS) | ((fail_if_success guard_hyp L3); intro L3 cl3 w hL3 hM3 hS) | fail)) | ((first | refine sN1 hS rfl ?_ | (refine oC ?_; first | refine sC0 hS rfl ?_ | refine sC1 hS rfl rfl ?_ | refine sC2 hS rfl rfl ?_ | refine sC3 hS rfl rfl rfl ?_ | refine sC4 hS rfl rfl rfl ?_)); clear hS; first | ((fail_if_success guard_hyp g1); intro g1 w hS) | ((fail_if_success guard_hyp g2); intro g2 w hS) | ((fail_if_success guard_hyp g3); intro g3 w hS) | ((fail_if_success guard_hyp g4); intro g4 w hS) | ((fail_if_success guard_hyp g5); intro g5 w hS) | ((fail_if_success guard_hyp g6); intro g6 w hS) | fail) | fail)
          go_roundw
          case measure => simp [intOf]; try omega
          exact ⟨2, c6, L, m, ns, by omega, by go_num, rfl, Lib.hid (by simpa using HM.out), hS⟩
    | 2, _, hk20 =>
      replace hk20 : _ = Value.int .i64 (2 : Int) := hk20
      subst hk20
      rw [if_neg (by decide), if_neg (by decide)] at HM
      have hnl : ns.length ≤ 2000 := by rw [HM.out.2]; have := nums_length (xs ++ ys); simp at this; omega
      have HSL := Lib.hid (sortI_length ns)
      go_wp2_with (first | (go_at_call 43; refine (sortC L c6 ns.length ns _ hS.rowOk rfl (by omega)).mono ?_; rintro e w ⟨rfl, ho1, hk1⟩; replace hS := hS.rowTurn ho1 hk1; clear ho1 hk1) | (refine oL ?_; (first | refine sL1 hS rfl rfl rfl ?_ | refine sL2 hS rfl rfl rfl ?_ | refine sL3 hS rfl rfl ?_ | refine sL4 hS rfl rfl ?_ | refine sL5 hS rfl rfl ?_ | refine sL6 hS rfl rfl ?_ | refine sL7 hS rfl rfl ?_)) | (refine oS ?_; ((first | refine sS1 hS rfl rfl rfl ?_ | refine sS2 hS rfl rfl rfl ?_ | refine sS3 hS rfl rfl rfl ?_ | refine sS4 hS rfl rfl rfl ?_ | refine sS5 hS rfl rfl rfl ?_); clear hS; intro w hS)) | (refine oK ?_; (first | refine sK1 hS rfl rfl rfl ?_ | refine sK2 hS rfl rfl rfl ?_ | refine sK3 hS rfl rfl rfl ?_)) | (refine oU ?_; (refine sU1 hS rfl rfl rfl rfl ?_; clear hS; intro w hS)) | (skip; (refine sW1 hS rfl ?_; clear hS; first | ((fail_if_success guard_hyp g1); intro g1 w hS) | ((fail_if_success guard_hyp g2); intro g2 w hS) | ((fail_if_success guard_hyp g3); intro g3 w hS) | ((fail_if_success guard_hyp g4); intro g4 w hS) | ((fail_if_success guard_hyp g5); intro g5 w hS) | ((fail_if_success guard_hyp g6); intro g6 w hS) | fail)) | (refine oP ?_; ((first | refine sP1 hS rfl rfl rfl ?_ | refine sP2 hS rfl rfl rfl ?_ | refine sP3 hS rfl rfl rfl ?_); clear hS; first | ((fail_if_success guard_hyp L1); intro L1 cl1 w hL1 hM1 hS) | ((fail_if_success guard_hyp L2); intro L2 cl2 w hL2 hM2 hS) | ((fail_if_success guard_hyp L3); intro L3 cl3 w hL3 hM3 hS) | fail)) | ((first | refine sN1 hS rfl ?_ | (refine oC ?_; first | refine sC0 hS rfl ?_ | refine sC1 hS rfl rfl ?_ | refine sC2 hS rfl rfl ?_ | refine sC3 hS rfl rfl rfl ?_ | refine sC4 hS rfl rfl rfl ?_)); clear hS; first | ((fail_if_success guard_hyp g1); intro g1 w hS) | ((fail_if_success guard_hyp g2); intro g2 w hS) | ((fail_if_success guard_hyp g3); intro g3 w hS) | ((fail_if_success guard_hyp g4); intro g4 w hS) | ((fail_if_success guard_hyp g5); intro g5 w hS) | ((fail_if_success guard_hyp g6); intro g6 w hS) | fail) | fail)
      have HKS := Lib.hid (show compL (xs ++ ys) = (sortI ns).map (pageAt (xs ++ ys)) by rw [HM.out.2]; rfl)
      have HIN := Lib.hid (fun k (hk : k ∈ sortI ns) => (nums_mem (xs ++ ys) k).1 (by rw [← HM.out.2]; exact (sortI_perm ns).mem_iff.1 hk))
      generalize sortI ns = ks at *
      generalize ns.length = nl at *
      replace hS := (hS.addNil 27 2)
      go_loopw [13, 15, 53] (fun s13 s15 s53 wr => ∃ (i c13 : Nat) (L3 : Option Addr) (vs : List Value), i ≤ nl ∧ s53 = .int .i64 i ∧ s13 = .slice L3 i c13 ∧ Hid (Reps rep 2 vs ((ks.take i).map (pageAt (xs ++ ys)))) ∧ St w0 NoM [row (.slice L3 i c13) 27 2 i vs, row (.slice L nl c6) 3 1 nl (ints ks), mpc g1 m] wr) (fun _ _ s53 _ => nl - (intOf s53).toNat)
      case atStart => exact ⟨0, 0, none, [], by omega, rfl, rfl, Lib.hid rfl, hS⟩
      case round =>
        clear hS
        obtain ⟨i, c13, L3, vs3, hi, rfl, rfl, HV, hS⟩ := hrel
        by_cases hlt : i < nl
        · have hlt' : (i : Int) < nl := by omega
          have hlk : i < ks.length := by rw [HSL.out]; exact hlt
          obtain ⟨gL, rfl⟩ := hS.rowSome L (by omega)
          have hgi := ints_get hlk
          have HTK := Lib.hid (show ks.take (i + 1) = ks.take i ++ [ks[i]] from List.take_succ_eq_append_getElem hlk)
          have HII := Lib.hid (HIN.out ks[i] (List.getElem_mem hlk))
          generalize ks[i] = kn at *
          obtain ⟨p, hp⟩ := Option.ne_none_iff_exists'.1 HII.out
          obtain ⟨v, hmk, hrep, hv⟩ := (HM.out.1 kn).2 p hp
          have HRP := Lib.hid (show rep [.int .i64 p.1, v] (pageAt (xs ++ ys) kn) by unfold pageAt; rw [hp]; exact hrep)
          clear hp hrep
          generalize p.1 = pn at *
          go_wp2_with (first | (refine oK ?_; refine sK4 hS rfl rfl rfl hmk ?_) | (refine oP ?_; refine sP2 hS rfl rfl rfl ?_ rfl (one2 hv) (by omega); clear hS; intro L9 cl9 w hL9 hM9 hS) | (refine oL ?_; (first | refine sL1 hS rfl rfl rfl ?_ | refine sL2 hS rfl rfl rfl ?_ | refine sL3 hS rfl rfl ?_ | refine sL4 hS rfl rfl ?_ | refine sL5 hS rfl rfl ?_ | refine sL6 hS rfl rfl ?_ | refine sL7 hS rfl rfl ?_)) | (refine oS ?_; ((first | refine sS1 hS rfl rfl rfl ?_ | refine sS2 hS rfl rfl rfl ?_ | refine sS3 hS rfl rfl rfl ?_ | refine sS4 hS rfl rfl rfl ?_ | refine sS5 hS rfl rfl rfl ?_); clear hS; intro w hS)) | (refine oK ?_; (first | refine sK1 hS rfl rfl rfl ?_ | refine sK2 hS rfl rfl rfl ?_ | refine sK3 hS rfl rfl rfl ?_)) | (refine oU ?_; (refine sU1 hS rfl rfl rfl rfl ?_; clear hS; intro w hS)) | (skip; (refine sW1 hS rfl ?_; clear hS; first | ((fail_if_success guard_hyp g1); intro g1 w hS) | ((fail_if_success guard_hyp g2); intro g2 w hS) | ((fail_if_success guard_hyp g3); intro g3 w hS) | ((fail_if_success guard_hyp g4); intro g4 w hS) | ((fail_if_success guard_hyp g5); intro g5 w hS) | ((fail_if_success guard_hyp g6); intro g6 w hS) | fail)) | (refine oP ?_; ((first | refine sP1 hS rfl rfl rfl ?_ | refine sP2 hS rfl rfl rfl ?_ | refine sP3 hS rfl rfl rfl ?_); clear hS; first | ((fail_if_success guard_hyp L1); intro L1 cl1 w hL1 hM1 hS) | ((fail_if_success guard_hyp L2); intro L2 cl2 w hL2 hM2 hS) | ((fail_if_success guard_hyp L3); intro L3 cl3 w hL3 hM3 hS) | fail)) | ((first | refine sN1 hS rfl ?_ | (refine oC ?_; first | refine sC0 hS rfl ?_ | refine sC1 hS rfl rfl ?_ | refine sC2 hS rfl rfl ?_ | refine sC3 hS rfl rfl rfl ?_ | refine sC4 hS rfl rfl rfl ?_)); clear hS; first | ((fail_if_success guard_hyp g1); intro g1 w hS) | ((fail_if_success guard_hyp g2); intro g2 w hS) | ((fail_if_success guard_hyp g3); intro g3 w hS) | ((fail_if_success guard_hyp g4); intro g4 w hS) | ((fail_if_success guard_hyp g5); intro g5 w hS) | ((fail_if_success guard_hyp g6); intro g6 w hS) | fail) | fail)
          go_roundw
          case measure => simp [intOf]; try omega
          refine ⟨i + 1, cl9, L9, vs3 ++ [.int .i64 pn, v], by omega, by go_num, rfl, Lib.hid ?_, hS.re⟩
          rw [HTK.out, List.map_append]
          exact HV.out.snoc rfl HRP.out
        · have HE := Lib.hid (show i = nl by omega)
          have hlt' : ¬ (i : Int) < nl := by omega
          go_wp2_with (first | (refine oL ?_; (first | refine sL1 hS rfl rfl rfl ?_ | refine sL2 hS rfl rfl rfl ?_ | refine sL3 hS rfl rfl ?_ | refine sL4 hS rfl rfl ?_ | refine sL5 hS rfl rfl ?_ | refine sL6 hS rfl rfl ?_ | refine sL7 hS rfl rfl ?_)) | (refine oS ?_; ((first | refine sS1 hS rfl rfl rfl ?_ | refine sS2 hS rfl rfl rfl ?_ | refine sS3 hS rfl rfl rfl ?_ | refine sS4 hS rfl rfl rfl ?_ | refine sS5 hS rfl rfl rfl ?_); clear hS; intro w hS)) | (refine oK ?_; (first | refine sK1 hS rfl rfl rfl ?_ | refine sK2 hS rfl rfl rfl ?_ | refine sK3 hS rfl rfl rfl ?_)) | (refine oU ?_; (refine sU1 hS rfl rfl rfl rfl ?_; clear hS; intro w hS)) | (skip; (refine sW1 hS rfl ?_; clear hS; first | ((fail_if_success guard_hyp g1); intro g1 w hS) | ((fail_if_success guard_hyp g2); intro g2 w hS) | ((fail_if_success guard_hyp g3); intro g3 w hS) | ((fail_if_success guard_hyp g4); intro g4 w hS) | ((fail_if_success guard_hyp g5); intro g5 w hS) | ((fail_if_success guard_hyp g6); intro g6 w hS) | fail)) | (refine oP ?_; ((first | refine sP1 hS rfl rfl rfl ?_ | refine sP2 hS rfl rfl rfl ?_ | refine sP3 hS rfl rfl rfl ?_); clear hS; first | ((fail_if_success guard_hyp L1); intro L1 cl1 w hL1 hM1 hS) | ((fail_if_success guard_hyp L2); intro L2 cl2 w hL2 hM2 hS) | ((fail_if_success guard_hyp L3); intro L3 cl3 w hL3 hM3 hS) | fail)) | ((first | refine sN1 hS rfl ?_ | (refine oC ?_; first | refine sC0 hS rfl ?_ | refine sC1 hS rfl rfl ?_ | refine sC2 hS rfl rfl ?_ | refine sC3 hS rfl rfl rfl ?_ | refine sC4 hS rfl rfl rfl ?_)); clear hS; first | ((fail_if_success guard_hyp g1); intro g1 w hS) | ((fail_if_success guard_hyp g2); intro g2 w hS) | ((fail_if_success guard_hyp g3); intro g3 w hS) | ((fail_if_success guard_hyp g4); intro g4 w hS) | ((fail_if_success guard_hyp g5); intro g5 w hS) | ((fail_if_success guard_hyp g6); intro g6 w hS) | fail) | fail)
          go_ret
          refine ⟨vs3, ?_, ?_⟩
          · rw [HKS.out]
            have := HV.out
            rw [List.take_of_length_le (by rw [HSL.out]; omega)] at this
            exact this
          · rw [HKS.out, List.length_map, HSL.out, ← HE.out]
            exact hS.ret rfl
end Go.Proofs.Ytmjmdncdmmcmaaa
