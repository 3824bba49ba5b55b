/- The machine of two-phase checkpointing: post, decide, answer, without. Conditions: the machine is a call's own, its lists are short. -/
import Derived.Test.YtmjmdncdmmcmaaaTwC
import Derived.Test.YtmjmdncdmmcmaaaTwS
import Derived.Test.YtmjmdncdmmcmaaaSnMem
import Derived.Test.YtmjmdncdmmcmaaaTail
import Derived.Test.YtmjmdncdmmcmaaaRowLd
import Derived.Test.YtmjmdncdmmcmaaaGc
namespace Go.Proofs.Ytmjmdncdmmcmaaa
open Go.RowKit Tph
set_option linter.unusedVariables false
set_option linter.unusedSimpArgs false
set_option linter.unusedSectionVars false

def ntCells (x : Nt) : List Value := [.int .i64 x.kd, .int .i64 (x.fr : Int), .int .i64 (x.to : Int)]
def ntc (l : List Nt) : List Value := l.flatMap ntCells
theorem ntc_len (l : List Nt) : (ntc l).length = l.length * 3 := flat_len (f := ntCells) (fun _ => rfl) l
theorem ntc_snoc (l : List Nt) (x : Nt) : ntc (l ++ [x]) = ntc l ++ [.int .i64 x.kd, .int .i64 (x.fr : Int), .int .i64 (x.to : Int)] := by simp [ntc, ntCells]
theorem opOf_at {l : List Bool} {q : Nat} (h : q < l.length) : (bools l)[q]? = some (.bool (opOf l q)) := bools_get h
theorem nth_at {l : List Int} {q : Nat} (h : q < l.length) : (ints l)[q]? = some (.int .i64 (nth l q)) := by rw [ints_get h, nth_eq h]
/-- a bool into a row of bools -/
theorem sS6 {P : Program} {ops : Array Oper} {Q : Exit → Act → World → Prop} {a : Act} {w w0 : World} {M : Nat → Prop} {cs : List (Chunk w0 M)} {f : Chunk w0 M → List (Chunk w0 M)} {rest : List Oper} {d : Option Tmp} {tt ty e : TypeId} {pos : String} {af : Array Edge} {gd : Option (Nat × Bool)} {x y : Operand} {g j : Nat} {v : Bool} {zs : List Bool} {n m cp : Nat} (hS : St w0 M cs w) [h1 : Ty1 P ty] [hp : PickG g cs e 1 n m cp (bools zs) f] (hw : Region.wanted ⟨d, .store ty x y, tt, pos, af, gd⟩ (yielded ops a.tmps) = true) (hx' : oval a x = some (.pointer (some ⟨g, j, none⟩))) (hy' : oval a y = some (.bool v)) (hj : j < zs.length) (k : ∀ w', St w0 M (f (row (.slice (some ⟨g, 0, none⟩) m cp) e 1 n (bools (zs.set j v)))) w' → wpList P ops Q rest (a.put d undef) w') : wpList P ops Q (⟨d, .store ty x y, tt, pos, af, gd⟩ :: rest) a w := by
  refine st_str hS hw hx' hy' rfl (by rw [bools_len]; exact hj) (fun w' h => k w' ?_)
  rw [bools_set] at h
  exact h
set_option maxRecDepth 100000 in
set_option maxHeartbeats 6400000 in
theorem post_st {w0 w u : World} {M T : Nat → Prop} {cs : List (Chunk w0 M)} (gm : Nat) (A1 : Option Addr) (c1 : Nat) (A2 : Option Addr) (c2 : Nat) (A3 : Option Addr) (c3 : Nat) (p : Pat) (root n : Nat) (UA : Option Addr) (uc gp kp gt kt ga ka gr kr gc kc gd kd : Nat) (par aw dec : List Int) (tent ref : List Bool) (cvs : List Value) (fl : List Nt) (FA : Option Addr) (nf fc : Nat) (kz : Int) (fr t0 : Nat) (hS : St w0 M (froz T u :: blk gm [.slice A1 p.len.length c1, .slice A2 p.ck.length c2, .slice A3 p.arcs.length c3, .int .i64 (root : Int), .slice UA n uc, .slice (some ⟨gp, 0, none⟩) n kp, .slice (some ⟨gt, 0, none⟩) n kt, .slice (some ⟨ga, 0, none⟩) n ka, .slice (some ⟨gr, 0, none⟩) n kr, .slice (some ⟨gc, 0, none⟩) n kc, .slice (some ⟨gd, 0, none⟩) n kd, .slice FA nf fc] 91 :: row (.slice (some ⟨gp, 0, none⟩) n kp) 3 1 n (ints par) :: row (.slice (some ⟨gt, 0, none⟩) n kt) 4 1 n (bools tent) :: row (.slice (some ⟨ga, 0, none⟩) n ka) 3 1 n (ints aw) :: row (.slice (some ⟨gr, 0, none⟩) n kr) 4 1 n (bools ref) :: row (.slice (some ⟨gc, 0, none⟩) n kc) 25 1 n cvs :: row (.slice (some ⟨gd, 0, none⟩) n kd) 3 1 n (ints dec) :: row (.slice FA nf fc) 97 3 nf (ntc fl) :: cs) w) (hb : nf ≤ 3000) :
    Calls Try.prog 96 #[.pointer (some ⟨gm, 0, none⟩), .int .i64 kz, .int .i64 (fr : Int), .int .i64 (t0 : Int)] w fun e w' => e = .returned (.tuple #[]) ∧ ∃ (F2 : Option Addr) (k2 : Nat), St w0 M (froz T u :: blk gm [.slice A1 p.len.length c1, .slice A2 p.ck.length c2, .slice A3 p.arcs.length c3, .int .i64 (root : Int), .slice UA n uc, .slice (some ⟨gp, 0, none⟩) n kp, .slice (some ⟨gt, 0, none⟩) n kt, .slice (some ⟨ga, 0, none⟩) n ka, .slice (some ⟨gr, 0, none⟩) n kr, .slice (some ⟨gc, 0, none⟩) n kc, .slice (some ⟨gd, 0, none⟩) n kd, .slice F2 (nf + 1) k2] 91 :: row (.slice (some ⟨gp, 0, none⟩) n kp) 3 1 n (ints par) :: row (.slice (some ⟨gt, 0, none⟩) n kt) 4 1 n (bools tent) :: row (.slice (some ⟨ga, 0, none⟩) n ka) 3 1 n (ints aw) :: row (.slice (some ⟨gr, 0, none⟩) n kr) 4 1 n (bools ref) :: row (.slice (some ⟨gc, 0, none⟩) n kc) 25 1 n cvs :: row (.slice (some ⟨gd, 0, none⟩) n kd) 3 1 n (ints dec) :: row (.slice F2 (nf + 1) k2) 97 3 (nf + 1) (ntc (fl ++ [⟨kz, fr, t0⟩])) :: cs) w' := by
  go_enter Try.func96, Try.ntmps96
  go_wp2_with (first | (refine oL ?_; (first | refine sL1 hS rfl rfl rfl ?_ | refine sL2 hS rfl rfl rfl ?_ | refine sL3 hS rfl rfl ?_ | refine sL4 hS rfl rfl ?_ | refine sL5 hS rfl rfl ?_ | refine sL6 hS rfl rfl ?_ | refine sL7 hS rfl rfl ?_)) | (refine oS ?_; ((first | refine sS1 hS rfl rfl rfl ?_ | refine sS2 hS rfl rfl rfl ?_ | refine sS3 hS rfl rfl rfl ?_ | refine sS4 hS rfl rfl rfl ?_ | refine sS5 hS rfl rfl rfl ?_); clear hS; intro w hS)) | (refine oP ?_; ((first | refine sP1 hS rfl rfl rfl ?_ | refine sP2 hS rfl rfl rfl ?_ | refine sP3 hS rfl rfl rfl ?_); clear hS; first | ((fail_if_success guard_hyp L1); intro L1 cl1 w hL1 hM1 hS) | ((fail_if_success guard_hyp L2); intro L2 cl2 w hL2 hM2 hS) | fail)) | ((first | (refine oC ?_; first | refine sC0 hS rfl ?_ | refine sC1 hS rfl rfl ?_ | refine sC2 hS rfl rfl ?_ | refine sC3 hS rfl rfl rfl ?_ | refine sC4 hS rfl rfl rfl ?_)); clear hS; first | ((fail_if_success guard_hyp g1); intro g1 w hS) | ((fail_if_success guard_hyp g2); intro g2 w hS) | fail) | fail)
  go_end0
  refine ⟨rfl, L1, cl1, ?_⟩
  rw [ntc_snoc]
  simp only [List.set_cons_zero, List.set_cons_succ] at hS
  exact hS
/-- what a decision posts -/
def dNote (d : Int) (q r : Nat) : Nt := ⟨if d = 2 then 5 else 4, q, r⟩
set_option maxRecDepth 100000 in
set_option maxHeartbeats 6400000 in
theorem decide_st {w0 w u : World} {M T : Nat → Prop} {cs : List (Chunk w0 M)} (gm : Nat) (A1 : Option Addr) (c1 : Nat) (A2 : Option Addr) (c2 : Nat) (A3 : Option Addr) (c3 : Nat) (p : Pat) (root n : Nat) (UA : Option Addr) (uc gp kp gt kt ga ka gr kr gc kc gd kd : Nat) (par aw dec : List Int) (tent ref : List Bool) (cvs : List Value) (fl : List Nt) (FA : Option Addr) (nf fc : Nat) (q : Nat) (d : Int) (l : List Nat) (B : Option Addr) (cB : Nat) (hS : St w0 M (froz T u :: blk gm [.slice A1 p.len.length c1, .slice A2 p.ck.length c2, .slice A3 p.arcs.length c3, .int .i64 (root : Int), .slice UA n uc, .slice (some ⟨gp, 0, none⟩) n kp, .slice (some ⟨gt, 0, none⟩) n kt, .slice (some ⟨ga, 0, none⟩) n ka, .slice (some ⟨gr, 0, none⟩) n kr, .slice (some ⟨gc, 0, none⟩) n kc, .slice (some ⟨gd, 0, none⟩) n kd, .slice FA nf fc] 91 :: row (.slice (some ⟨gp, 0, none⟩) n kp) 3 1 n (ints par) :: row (.slice (some ⟨gt, 0, none⟩) n kt) 4 1 n (bools tent) :: row (.slice (some ⟨ga, 0, none⟩) n ka) 3 1 n (ints aw) :: row (.slice (some ⟨gr, 0, none⟩) n kr) 4 1 n (bools ref) :: row (.slice (some ⟨gc, 0, none⟩) n kc) 25 1 n cvs :: row (.slice (some ⟨gd, 0, none⟩) n kd) 3 1 n (ints dec) :: row (.slice FA nf fc) 97 3 nf (ntc fl) :: cs) w) (hb : nf ≤ 2000) (hq : q < n) (ht : tent.length = n) (hd : dec.length = n) (hcv : cvs[q]? = some (.slice B l.length cB)) (hri : RI T u B (nats l)) (hl : l.length ≤ 5) (hd2 : d = 1 ∨ d = 2) :
    Calls Try.prog 100 #[.pointer (some ⟨gm, 0, none⟩), .int .i64 (q : Int), .int .i64 d] w fun e w' => e = .returned (.tuple #[]) ∧ ∃ (F2 : Option Addr) (k2 : Nat), St w0 M (froz T u :: blk gm [.slice A1 p.len.length c1, .slice A2 p.ck.length c2, .slice A3 p.arcs.length c3, .int .i64 (root : Int), .slice UA n uc, .slice (some ⟨gp, 0, none⟩) n kp, .slice (some ⟨gt, 0, none⟩) n kt, .slice (some ⟨ga, 0, none⟩) n ka, .slice (some ⟨gr, 0, none⟩) n kr, .slice (some ⟨gc, 0, none⟩) n kc, .slice (some ⟨gd, 0, none⟩) n kd, .slice F2 (nf + l.length) k2] 91 :: row (.slice (some ⟨gp, 0, none⟩) n kp) 3 1 n (ints par) :: row (.slice (some ⟨gt, 0, none⟩) n kt) 4 1 n (bools (tent.set q false)) :: row (.slice (some ⟨ga, 0, none⟩) n ka) 3 1 n (ints aw) :: row (.slice (some ⟨gr, 0, none⟩) n kr) 4 1 n (bools ref) :: row (.slice (some ⟨gc, 0, none⟩) n kc) 25 1 n cvs :: row (.slice (some ⟨gd, 0, none⟩) n kd) 3 1 n (ints (dec.set q d)) :: row (.slice F2 (nf + l.length) k2) 97 3 (nf + l.length) (ntc (fl ++ l.map (dNote d q))) :: cs) w' := by
  have HRI := Lib.hid hri
  clear hri
  have hq' : (q : Int) < (n : Int) := by omega
  have hqt : q < tent.length := by omega
  have hqd : q < dec.length := by omega
  by_cases h2 : d = 2
  · have e2 : (d == 2) = true := by simp [h2]
    have HKK := Lib.hid (show ∀ r, dNote d q r = ⟨5, q, r⟩ from fun r => by unfold dNote; rw [if_pos h2])
    clear hd2 h2
    skip
    all_goals
      go_enter Try.func100, Try.ntmps100
      go_wp2_with (first | (refine oS ?_; refine sS6 hS rfl rfl rfl (by omega) ?_; clear hS; intro w hS) | (refine oL ?_; (first | refine sL1 hS rfl rfl rfl ?_ | refine sL2 hS rfl rfl rfl ?_ | refine sL3 hS rfl rfl ?_ | refine sL4 hS rfl rfl ?_ | refine sL5 hS rfl rfl ?_ | refine sL6 hS rfl rfl ?_ | refine sL7 hS rfl rfl ?_)) | (refine oS ?_; ((first | refine sS1 hS rfl rfl rfl ?_ | refine sS2 hS rfl rfl rfl ?_ | refine sS3 hS rfl rfl rfl ?_ | refine sS4 hS rfl rfl rfl ?_ | refine sS5 hS rfl rfl rfl ?_); clear hS; intro w hS)) | fail)
      go_loopw [8, 35] (fun s8 s35 wr => ∃ (j : Nat) (F2 : Option Addr) (k2 : Nat), j ≤ l.length ∧ s35 = .int .i64 j ∧ St w0 M (froz T u :: blk gm [.slice A1 p.len.length c1, .slice A2 p.ck.length c2, .slice A3 p.arcs.length c3, .int .i64 (root : Int), .slice UA n uc, .slice (some ⟨gp, 0, none⟩) n kp, .slice (some ⟨gt, 0, none⟩) n kt, .slice (some ⟨ga, 0, none⟩) n ka, .slice (some ⟨gr, 0, none⟩) n kr, .slice (some ⟨gc, 0, none⟩) n kc, .slice (some ⟨gd, 0, none⟩) n kd, .slice F2 (nf + j) k2] 91 :: row (.slice (some ⟨gp, 0, none⟩) n kp) 3 1 n (ints par) :: row (.slice (some ⟨gt, 0, none⟩) n kt) 4 1 n (bools (tent.set q false)) :: row (.slice (some ⟨ga, 0, none⟩) n ka) 3 1 n (ints aw) :: row (.slice (some ⟨gr, 0, none⟩) n kr) 4 1 n (bools ref) :: row (.slice (some ⟨gc, 0, none⟩) n kc) 25 1 n cvs :: row (.slice (some ⟨gd, 0, none⟩) n kd) 3 1 n (ints (dec.set q d)) :: row (.slice F2 (nf + j) k2) 97 3 (nf + j) (ntc (fl ++ (l.take j).map (dNote d q))) :: cs) wr) (fun _ s35 _ => l.length - (intOf s35).toNat)
      case atStart => exact ⟨0, FA, fc, by omega, rfl, by rw [List.take_zero, List.map_nil, List.append_nil, Nat.add_zero]; exact hS⟩
      case round =>
        clear hS
        obtain ⟨j, F2, k2, hj, rfl, hS⟩ := hrel
        by_cases hjl : j < l.length
        · have hjl' : (j : Int) < l.length := by omega
          obtain ⟨bB, oB, rfl, hfc⟩ := HRI.out.fc (k := j) (by rw [List.length_map]; exact hjl)
          have HX := Lib.hid (show nth (nats l) j = ((l[j] : Nat) : Int) by rw [nth_eq (by rw [List.length_map]; exact hjl)]; simp [nats])
          rw [HX.out] at hfc
          have HTK := Lib.hid (show (l.take (j + 1)).map (dNote d q) = (l.take j).map (dNote d q) ++ [⟨5, q, l[j]⟩] from by rw [List.take_succ_eq_append_getElem hjl, List.map_append, List.map_cons, List.map_nil, HKK.out])
          generalize l[j] = x at *
          go_wp2_with (first | (go_at_call 96; refine (post_st gm A1 c1 A2 c2 A3 c3 p root n UA uc gp kp gt kt ga ka gr kr gc kc gd kd par aw (dec.set q d) (tent.set q false) ref cvs (fl ++ (l.take j).map (dNote d q)) F2 (nf + j) k2 5 q x hS (by omega)).mono ?_; rintro e w ⟨rfl, F3, k3, hS1⟩; clear hS; have hS := hS1; clear hS1) | (refine oL ?_; (first | refine sL1 hS rfl rfl rfl ?_ | refine sL2 hS rfl rfl rfl ?_ | refine sL3 hS rfl rfl ?_ | refine sL4 hS rfl rfl ?_ | refine sL5 hS rfl rfl ?_ | refine sL6 hS rfl rfl ?_ | refine sL7 hS rfl rfl ?_)) | (refine oS ?_; ((first | refine sS1 hS rfl rfl rfl ?_ | refine sS2 hS rfl rfl rfl ?_ | refine sS3 hS rfl rfl rfl ?_ | refine sS4 hS rfl rfl rfl ?_ | refine sS5 hS rfl rfl rfl ?_); clear hS; intro w hS)) | fail)
          go_roundw
          case measure => simp [intOf]; try omega
          refine ⟨j + 1, F3, k3, by omega, by go_num, ?_⟩
          rw [HTK.out, ← List.append_assoc]
          exact hS
        · have hjl' : ¬ (j : Int) < l.length := by omega
          have HE := Lib.hid (show j = l.length by omega)
          go_wp2_with (first | (refine oL ?_; (first | refine sL1 hS rfl rfl rfl ?_ | refine sL2 hS rfl rfl rfl ?_ | refine sL3 hS rfl rfl ?_ | refine sL4 hS rfl rfl ?_ | refine sL5 hS rfl rfl ?_ | refine sL6 hS rfl rfl ?_ | refine sL7 hS rfl rfl ?_)) | (refine oS ?_; ((first | refine sS1 hS rfl rfl rfl ?_ | refine sS2 hS rfl rfl rfl ?_ | refine sS3 hS rfl rfl rfl ?_ | refine sS4 hS rfl rfl rfl ?_ | refine sS5 hS rfl rfl rfl ?_); clear hS; intro w hS)) | fail)
          go_end0
          rw [List.take_of_length_le (by omega), HE.out] at hS
          refine ⟨rfl, F2, k2, ?_⟩
          first | exact hS | (simp only [ints, List.map_set] at hS ⊢; exact hS)
  · have e2 : (d == 2) = false := by simp [h2]
    have HKK := Lib.hid (show ∀ r, dNote d q r = ⟨4, q, r⟩ from fun r => by unfold dNote; rw [if_neg h2])
    clear hd2 h2
    skip
    all_goals
      go_enter Try.func100, Try.ntmps100
      go_wp2_with (first | (refine oS ?_; refine sS6 hS rfl rfl rfl (by omega) ?_; clear hS; intro w hS) | (refine oL ?_; (first | refine sL1 hS rfl rfl rfl ?_ | refine sL2 hS rfl rfl rfl ?_ | refine sL3 hS rfl rfl ?_ | refine sL4 hS rfl rfl ?_ | refine sL5 hS rfl rfl ?_ | refine sL6 hS rfl rfl ?_ | refine sL7 hS rfl rfl ?_)) | (refine oS ?_; ((first | refine sS1 hS rfl rfl rfl ?_ | refine sS2 hS rfl rfl rfl ?_ | refine sS3 hS rfl rfl rfl ?_ | refine sS4 hS rfl rfl rfl ?_ | refine sS5 hS rfl rfl rfl ?_); clear hS; intro w hS)) | fail)
      go_loopw [8, 35] (fun s8 s35 wr => ∃ (j : Nat) (F2 : Option Addr) (k2 : Nat), j ≤ l.length ∧ s35 = .int .i64 j ∧ St w0 M (froz T u :: blk gm [.slice A1 p.len.length c1, .slice A2 p.ck.length c2, .slice A3 p.arcs.length c3, .int .i64 (root : Int), .slice UA n uc, .slice (some ⟨gp, 0, none⟩) n kp, .slice (some ⟨gt, 0, none⟩) n kt, .slice (some ⟨ga, 0, none⟩) n ka, .slice (some ⟨gr, 0, none⟩) n kr, .slice (some ⟨gc, 0, none⟩) n kc, .slice (some ⟨gd, 0, none⟩) n kd, .slice F2 (nf + j) k2] 91 :: row (.slice (some ⟨gp, 0, none⟩) n kp) 3 1 n (ints par) :: row (.slice (some ⟨gt, 0, none⟩) n kt) 4 1 n (bools (tent.set q false)) :: row (.slice (some ⟨ga, 0, none⟩) n ka) 3 1 n (ints aw) :: row (.slice (some ⟨gr, 0, none⟩) n kr) 4 1 n (bools ref) :: row (.slice (some ⟨gc, 0, none⟩) n kc) 25 1 n cvs :: row (.slice (some ⟨gd, 0, none⟩) n kd) 3 1 n (ints (dec.set q d)) :: row (.slice F2 (nf + j) k2) 97 3 (nf + j) (ntc (fl ++ (l.take j).map (dNote d q))) :: cs) wr) (fun _ s35 _ => l.length - (intOf s35).toNat)
      case atStart => exact ⟨0, FA, fc, by omega, rfl, by rw [List.take_zero, List.map_nil, List.append_nil, Nat.add_zero]; exact hS⟩
      case round =>
        clear hS
        obtain ⟨j, F2, k2, hj, rfl, hS⟩ := hrel
        by_cases hjl : j < l.length
        · have hjl' : (j : Int) < l.length := by omega
          obtain ⟨bB, oB, rfl, hfc⟩ := HRI.out.fc (k := j) (by rw [List.length_map]; exact hjl)
          have HX := Lib.hid (show nth (nats l) j = ((l[j] : Nat) : Int) by rw [nth_eq (by rw [List.length_map]; exact hjl)]; simp [nats])
          rw [HX.out] at hfc
          have HTK := Lib.hid (show (l.take (j + 1)).map (dNote d q) = (l.take j).map (dNote d q) ++ [⟨4, q, l[j]⟩] from by rw [List.take_succ_eq_append_getElem hjl, List.map_append, List.map_cons, List.map_nil, HKK.out])
          generalize l[j] = x at *
          go_wp2_with (first | (go_at_call 96; refine (post_st gm A1 c1 A2 c2 A3 c3 p root n UA uc gp kp gt kt ga ka gr kr gc kc gd kd par aw (dec.set q d) (tent.set q false) ref cvs (fl ++ (l.take j).map (dNote d q)) F2 (nf + j) k2 4 q x hS (by omega)).mono ?_; rintro e w ⟨rfl, F3, k3, hS1⟩; clear hS; have hS := hS1; clear hS1) | (refine oL ?_; (first | refine sL1 hS rfl rfl rfl ?_ | refine sL2 hS rfl rfl rfl ?_ | refine sL3 hS rfl rfl ?_ | refine sL4 hS rfl rfl ?_ | refine sL5 hS rfl rfl ?_ | refine sL6 hS rfl rfl ?_ | refine sL7 hS rfl rfl ?_)) | (refine oS ?_; ((first | refine sS1 hS rfl rfl rfl ?_ | refine sS2 hS rfl rfl rfl ?_ | refine sS3 hS rfl rfl rfl ?_ | refine sS4 hS rfl rfl rfl ?_ | refine sS5 hS rfl rfl rfl ?_); clear hS; intro w hS)) | fail)
          go_roundw
          case measure => simp [intOf]; try omega
          refine ⟨j + 1, F3, k3, by omega, by go_num, ?_⟩
          rw [HTK.out, ← List.append_assoc]
          exact hS
        · have hjl' : ¬ (j : Int) < l.length := by omega
          have HE := Lib.hid (show j = l.length by omega)
          go_wp2_with (first | (refine oL ?_; (first | refine sL1 hS rfl rfl rfl ?_ | refine sL2 hS rfl rfl rfl ?_ | refine sL3 hS rfl rfl ?_ | refine sL4 hS rfl rfl ?_ | refine sL5 hS rfl rfl ?_ | refine sL6 hS rfl rfl ?_ | refine sL7 hS rfl rfl ?_)) | (refine oS ?_; ((first | refine sS1 hS rfl rfl rfl ?_ | refine sS2 hS rfl rfl rfl ?_ | refine sS3 hS rfl rfl rfl ?_ | refine sS4 hS rfl rfl rfl ?_ | refine sS5 hS rfl rfl rfl ?_); clear hS; intro w hS)) | fail)
          go_end0
          rw [List.take_of_length_le (by omega), HE.out] at hS
          refine ⟨rfl, F2, k2, ?_⟩
          first | exact hS | (simp only [ints, List.map_set] at hS ⊢; exact hS)
end Go.Proofs.Ytmjmdncdmmcmaaa
