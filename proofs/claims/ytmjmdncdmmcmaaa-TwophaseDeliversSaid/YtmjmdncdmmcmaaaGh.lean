/- The machine of two-phase checkpointing: post, decide, answer, without. Conditions: the machine is a call's own, its lists are short. -/
import Derived.Test.YtmjmdncdmmcmaaaTwC
import Derived.Test.YtmjmdncdmmcmaaaTwS
import Derived.Test.YtmjmdncdmmcmaaaSnMem
import Derived.Test.YtmjmdncdmmcmaaaTail
import Derived.Test.YtmjmdncdmmcmaaaRowLd
import Derived.Test.YtmjmdncdmmcmaaaGc
namespace Go.Proofs.Ytmjmdncdmmcmaaa
open Go.RowKit Tph
set_option linter.unusedVariables false
set_option linter.unusedSimpArgs false
set_option linter.unusedSectionVars false

def ntCells (x : Nt) : List Value := [.int .i64 x.kd, .int .i64 (x.fr : Int), .int .i64 (x.to : Int)]
def ntc (l : List Nt) : List Value := l.flatMap ntCells
theorem ntc_len (l : List Nt) : (ntc l).length = l.length * 3 := flat_len (f := ntCells) (fun _ => rfl) l
theorem ntc_snoc (l : List Nt) (x : Nt) : ntc (l ++ [x]) = ntc l ++ [.int .i64 x.kd, .int .i64 (x.fr : Int), .int .i64 (x.to : Int)] := by simp [ntc, ntCells]
theorem opOf_at {l : List Bool} {q : Nat} (h : q < l.length) : (bools l)[q]? = some (.bool (opOf l q)) := bools_get h
theorem nth_at {l : List Int} {q : Nat} (h : q < l.length) : (ints l)[q]? = some (.int .i64 (nth l q)) := by rw [ints_get h, nth_eq h]
/-- a bool into a row of bools -/
theorem sS6 {P : Program} {ops : Array Oper} {Q : Exit → Act → World → Prop} {a : Act} {w w0 : World} {M : Nat → Prop} {cs : List (Chunk w0 M)} {f : Chunk w0 M → List (Chunk w0 M)} {rest : List Oper} {d : Option Tmp} {tt ty e : TypeId} {pos : String} {af : Array Edge} {gd : Option (Nat × Bool)} {x y : Operand} {g j : Nat} {v : Bool} {zs : List Bool} {n m cp : Nat} (hS : St w0 M cs w) [h1 : Ty1 P ty] [hp : PickG g cs e 1 n m cp (bools zs) f] (hw : Region.wanted ⟨d, .store ty x y, tt, pos, af, gd⟩ (yielded ops a.tmps) = true) (hx' : oval a x = some (.pointer (some ⟨g, j, none⟩))) (hy' : oval a y = some (.bool v)) (hj : j < zs.length) (k : ∀ w', St w0 M (f (row (.slice (some ⟨g, 0, none⟩) m cp) e 1 n (bools (zs.set j v)))) w' → wpList P ops Q rest (a.put d undef) w') : wpList P ops Q (⟨d, .store ty x y, tt, pos, af, gd⟩ :: rest) a w := by
  refine st_str hS hw hx' hy' rfl (by rw [bools_len]; exact hj) (fun w' h => k w' ?_)
  rw [bools_set] at h
  exact h
set_option maxRecDepth 100000 in
set_option maxHeartbeats 6400000 in
theorem post_st {w0 w u : World} {M T : Nat → Prop} {cs : List (Chunk w0 M)} (gm : Nat) (A1 : Option Addr) (c1 : Nat) (A2 : Option Addr) (c2 : Nat) (A3 : Option Addr) (c3 : Nat) (p : Pat) (root n : Nat) (UA : Option Addr) (uc gp kp gt kt ga ka gr kr gc kc gd kd : Nat) (par aw dec : List Int) (tent ref : List Bool) (cvs : List Value) (fl : List Nt) (FA : Option Addr) (nf fc : Nat) (kz : Int) (fr t0 : Nat) (hS : St w0 M (froz T u :: blk gm [.slice A1 p.len.length c1, .slice A2 p.ck.length c2, .slice A3 p.arcs.length c3, .int .i64 (root : Int), .slice UA n uc, .slice (some ⟨gp, 0, none⟩) n kp, .slice (some ⟨gt, 0, none⟩) n kt, .slice (some ⟨ga, 0, none⟩) n ka, .slice (some ⟨gr, 0, none⟩) n kr, .slice (some ⟨gc, 0, none⟩) n kc, .slice (some ⟨gd, 0, none⟩) n kd, .slice FA nf fc] 91 :: row (.slice (some ⟨gp, 0, none⟩) n kp) 3 1 n (ints par) :: row (.slice (some ⟨gt, 0, none⟩) n kt) 4 1 n (bools tent) :: row (.slice (some ⟨ga, 0, none⟩) n ka) 3 1 n (ints aw) :: row (.slice (some ⟨gr, 0, none⟩) n kr) 4 1 n (bools ref) :: row (.slice (some ⟨gc, 0, none⟩) n kc) 25 1 n cvs :: row (.slice (some ⟨gd, 0, none⟩) n kd) 3 1 n (ints dec) :: row (.slice FA nf fc) 97 3 nf (ntc fl) :: cs) w) (hb : nf ≤ 3000) :
    Calls Try.prog 96 #[.pointer (some ⟨gm, 0, none⟩), .int .i64 kz, .int .i64 (fr : Int), .int .i64 (t0 : Int)] w fun e w' => e = .returned (.tuple #[]) ∧ ∃ (F2 : Option Addr) (k2 : Nat), St w0 M (froz T u :: blk gm [.slice A1 p.len.length c1, .slice A2 p.ck.length c2, .slice A3 p.arcs.length c3, .int .i64 (root : Int), .slice UA n uc, .slice (some ⟨gp, 0, none⟩) n kp, .slice (some ⟨gt, 0, none⟩) n kt, .slice (some ⟨ga, 0, none⟩) n ka, .slice (some ⟨gr, 0, none⟩) n kr, .slice (some ⟨gc, 0, none⟩) n kc, .slice (some ⟨gd, 0, none⟩) n kd, .slice F2 (nf + 1) k2] 91 :: row (.slice (some ⟨gp, 0, none⟩) n kp) 3 1 n (ints par) :: row (.slice (some ⟨gt, 0, none⟩) n kt) 4 1 n (bools tent) :: row (.slice (some ⟨ga, 0, none⟩) n ka) 3 1 n (ints aw) :: row (.slice (some ⟨gr, 0, none⟩) n kr) 4 1 n (bools ref) :: row (.slice (some ⟨gc, 0, none⟩) n kc) 25 1 n cvs :: row (.slice (some ⟨gd, 0, none⟩) n kd) 3 1 n (ints dec) :: row (.slice F2 (nf + 1) k2) 97 3 (nf + 1) (ntc (fl ++ [⟨kz, fr, t0⟩])) :: cs) w' := by
  go_enter Try.func96, Try.ntmps96
  go_wp2_with (first | (refine oL ?_; ((refine sL1 hS rfl rfl rfl ?_))) | (refine oS ?_; (((refine sS1 hS rfl rfl rfl ?_)); clear hS; intro w hS)) | (refine oP ?_; (((refine sP2 hS rfl rfl rfl ?_)); clear hS; (((fail_if_success guard_hyp L1); intro L1 cl1 w hL1 hM1 hS)))) | ((((refine oC ?_; (refine sC2 hS rfl rfl ?_)))); clear hS; (((fail_if_success guard_hyp g1); intro g1 w hS))))
  go_end0
  refine ⟨rfl, L1, cl1, ?_⟩
  rw [ntc_snoc]
  simp only [List.set_cons_zero, List.set_cons_succ] at hS
  exact hS
/-- what a decision posts -/
def dNote (d : Int) (q r : Nat) : Nt := ⟨if d = 2 then 5 else 4, q, r⟩
set_option maxRecDepth 100000 in
set_option maxHeartbeats 6400000 in
theorem decide_st {w0 w u : World} {M T : Nat → Prop} {cs : List (Chunk w0 M)} (gm : Nat) (A1 : Option Addr) (c1 : Nat) (A2 : Option Addr) (c2 : Nat) (A3 : Option Addr) (c3 : Nat) (p : Pat) (root n : Nat) (UA : Option Addr) (uc gp kp gt kt ga ka gr kr gc kc gd kd : Nat) (par aw dec : List Int) (tent ref : List Bool) (cvs : List Value) (fl : List Nt) (FA : Option Addr) (nf fc : Nat) (q : Nat) (d : Int) (l : List Nat) (B : Option Addr) (cB : Nat) (hS : St w0 M (froz T u :: blk gm [.slice A1 p.len.length c1, .slice A2 p.ck.length c2, .slice A3 p.arcs.length c3, .int .i64 (root : Int), .slice UA n uc, .slice (some ⟨gp, 0, none⟩) n kp, .slice (some ⟨gt, 0, none⟩) n kt, .slice (some ⟨ga, 0, none⟩) n ka, .slice (some ⟨gr, 0, none⟩) n kr, .slice (some ⟨gc, 0, none⟩) n kc, .slice (some ⟨gd, 0, none⟩) n kd, .slice FA nf fc] 91 :: row (.slice (some ⟨gp, 0, none⟩) n kp) 3 1 n (ints par) :: row (.slice (some ⟨gt, 0, none⟩) n kt) 4 1 n (bools tent) :: row (.slice (some ⟨ga, 0, none⟩) n ka) 3 1 n (ints aw) :: row (.slice (some ⟨gr, 0, none⟩) n kr) 4 1 n (bools ref) :: row (.slice (some ⟨gc, 0, none⟩) n kc) 25 1 n cvs :: row (.slice (some ⟨gd, 0, none⟩) n kd) 3 1 n (ints dec) :: row (.slice FA nf fc) 97 3 nf (ntc fl) :: cs) w) (hb : nf ≤ 2000) (hq : q < n) (ht : tent.length = n) (hd : dec.length = n) (hcv : cvs[q]? = some (.slice B l.length cB)) (hri : RI T u B (nats l)) (hl : l.length ≤ 5) (hd2 : d = 1 ∨ d = 2) :
    Calls Try.prog 100 #[.pointer (some ⟨gm, 0, none⟩), .int .i64 (q : Int), .int .i64 d] w fun e w' => e = .returned (.tuple #[]) ∧ ∃ (F2 : Option Addr) (k2 : Nat), St w0 M (froz T u :: blk gm [.slice A1 p.len.length c1, .slice A2 p.ck.length c2, .slice A3 p.arcs.length c3, .int .i64 (root : Int), .slice UA n uc, .slice (some ⟨gp, 0, none⟩) n kp, .slice (some ⟨gt, 0, none⟩) n kt, .slice (some ⟨ga, 0, none⟩) n ka, .slice (some ⟨gr, 0, none⟩) n kr, .slice (some ⟨gc, 0, none⟩) n kc, .slice (some ⟨gd, 0, none⟩) n kd, .slice F2 (nf + l.length) k2] 91 :: row (.slice (some ⟨gp, 0, none⟩) n kp) 3 1 n (ints par) :: row (.slice (some ⟨gt, 0, none⟩) n kt) 4 1 n (bools (tent.set q false)) :: row (.slice (some ⟨ga, 0, none⟩) n ka) 3 1 n (ints aw) :: row (.slice (some ⟨gr, 0, none⟩) n kr) 4 1 n (bools ref) :: row (.slice (some ⟨gc, 0, none⟩) n kc) 25 1 n cvs :: row (.slice (some ⟨gd, 0, none⟩) n kd) 3 1 n (ints (dec.set q d)) :: row (.slice F2 (nf + l.length) k2) 97 3 (nf + l.length) (ntc (fl ++ l.map (dNote d q))) :: cs) w' := by
  have HRI := Lib.hid hri
  clear hri
  have hq' : (q : Int) < (n : Int) := by omega
  have hqt : q < tent.length := by omega
  have hqd : q < dec.length := by omega
  by_cases h2 : d = 2
  · have e2 : (d == 2) = true := by simp [h2]
    have HKK := Lib.hid (show ∀ r, dNote d q r = ⟨5, q, r⟩ from fun r => by unfold dNote; rw [if_pos h2])
    clear hd2 h2
    skip
    all_goals
      go_enter Try.func100, Try.ntmps100
      go_wp2_with (first | (refine oS ?_; refine sS6 hS rfl rfl rfl (by omega) ?_; clear hS; intro w hS) | (refine oL ?_; (first | refine sL1 hS rfl rfl rfl ?_ | refine sL5 hS rfl rfl ?_)) | (refine oS ?_; (((refine sS2 hS rfl rfl rfl ?_)); clear hS; intro w hS)))
      go_loopw [8, 35] (fun s8 s35 wr => ∃ (j : Nat) (F2 : Option Addr) (k2 : Nat), j ≤ l.length ∧ s35 = .int .i64 j ∧ St w0 M (froz T u :: blk gm [.slice A1 p.len.length c1, .slice A2 p.ck.length c2, .slice A3 p.arcs.length c3, .int .i64 (root : Int), .slice UA n uc, .slice (some ⟨gp, 0, none⟩) n kp, .slice (some ⟨gt, 0, none⟩) n kt, .slice (some ⟨ga, 0, none⟩) n ka, .slice (some ⟨gr, 0, none⟩) n kr, .slice (some ⟨gc, 0, none⟩) n kc, .slice (some ⟨gd, 0, none⟩) n kd, .slice F2 (nf + j) k2] 91 :: row (.slice (some ⟨gp, 0, none⟩) n kp) 3 1 n (ints par) :: row (.slice (some ⟨gt, 0, none⟩) n kt) 4 1 n (bools (tent.set q false)) :: row (.slice (some ⟨ga, 0, none⟩) n ka) 3 1 n (ints aw) :: row (.slice (some ⟨gr, 0, none⟩) n kr) 4 1 n (bools ref) :: row (.slice (some ⟨gc, 0, none⟩) n kc) 25 1 n cvs :: row (.slice (some ⟨gd, 0, none⟩) n kd) 3 1 n (ints (dec.set q d)) :: row (.slice F2 (nf + j) k2) 97 3 (nf + j) (ntc (fl ++ (l.take j).map (dNote d q))) :: cs) wr) (fun _ s35 _ => l.length - (intOf s35).toNat)
      case atStart => exact ⟨0, FA, fc, by omega, rfl, by rw [List.take_zero, List.map_nil, List.append_nil, Nat.add_zero]; exact hS⟩
      case round =>
        clear hS
        obtain ⟨j, F2, k2, hj, rfl, hS⟩ := hrel
        by_cases hjl : j < l.length
        · have hjl' : (j : Int) < l.length := by omega
          obtain ⟨bB, oB, rfl, hfc⟩ := HRI.out.fc (k := j) (by rw [List.length_map]; exact hjl)
          have HX := Lib.hid (show nth (nats l) j = ((l[j] : Nat) : Int) by rw [nth_eq (by rw [List.length_map]; exact hjl)]; simp [nats])
          rw [HX.out] at hfc
          have HTK := Lib.hid (show (l.take (j + 1)).map (dNote d q) = (l.take j).map (dNote d q) ++ [⟨5, q, l[j]⟩] from by rw [List.take_succ_eq_append_getElem hjl, List.map_append, List.map_cons, List.map_nil, HKK.out])
          generalize l[j] = x at *
          go_wp2_with (first | (go_at_call 96; refine (post_st gm A1 c1 A2 c2 A3 c3 p root n UA uc gp kp gt kt ga ka gr kr gc kc gd kd par aw (dec.set q d) (tent.set q false) ref cvs (fl ++ (l.take j).map (dNote d q)) F2 (nf + j) k2 5 q x hS (by omega)).mono ?_; rintro e w ⟨rfl, F3, k3, hS1⟩; clear hS; have hS := hS1; clear hS1) | (refine oL ?_; ((refine sL7 hS rfl rfl ?_))))
          go_roundw
          case measure => simp [intOf]; try omega
          refine ⟨j + 1, F3, k3, by omega, by go_num, ?_⟩
          rw [HTK.out, ← List.append_assoc]
          exact hS
        · have hjl' : ¬ (j : Int) < l.length := by omega
          have HE := Lib.hid (show j = l.length by omega)
          go_wp2_with (fail)
          go_end0
          rw [List.take_of_length_le (by omega), HE.out] at hS
          refine ⟨rfl, F2, k2, ?_⟩
          first | exact hS | (simp only [ints, List.map_set] at hS ⊢; exact hS)
  · have e2 : (d == 2) = false := by simp [h2]
    have HKK := Lib.hid (show ∀ r, dNote d q r = ⟨4, q, r⟩ from fun r => by unfold dNote; rw [if_neg h2])
    clear hd2 h2
    skip
    all_goals
      go_enter Try.func100, Try.ntmps100
      go_wp2_with (first | (refine oS ?_; refine sS6 hS rfl rfl rfl (by omega) ?_; clear hS; intro w hS) | (refine oL ?_; (first | refine sL1 hS rfl rfl rfl ?_ | refine sL5 hS rfl rfl ?_)) | (refine oS ?_; (((refine sS2 hS rfl rfl rfl ?_)); clear hS; intro w hS)))
      go_loopw [8, 35] (fun s8 s35 wr => ∃ (j : Nat) (F2 : Option Addr) (k2 : Nat), j ≤ l.length ∧ s35 = .int .i64 j ∧ St w0 M (froz T u :: blk gm [.slice A1 p.len.length c1, .slice A2 p.ck.length c2, .slice A3 p.arcs.length c3, .int .i64 (root : Int), .slice UA n uc, .slice (some ⟨gp, 0, none⟩) n kp, .slice (some ⟨gt, 0, none⟩) n kt, .slice (some ⟨ga, 0, none⟩) n ka, .slice (some ⟨gr, 0, none⟩) n kr, .slice (some ⟨gc, 0, none⟩) n kc, .slice (some ⟨gd, 0, none⟩) n kd, .slice F2 (nf + j) k2] 91 :: row (.slice (some ⟨gp, 0, none⟩) n kp) 3 1 n (ints par) :: row (.slice (some ⟨gt, 0, none⟩) n kt) 4 1 n (bools (tent.set q false)) :: row (.slice (some ⟨ga, 0, none⟩) n ka) 3 1 n (ints aw) :: row (.slice (some ⟨gr, 0, none⟩) n kr) 4 1 n (bools ref) :: row (.slice (some ⟨gc, 0, none⟩) n kc) 25 1 n cvs :: row (.slice (some ⟨gd, 0, none⟩) n kd) 3 1 n (ints (dec.set q d)) :: row (.slice F2 (nf + j) k2) 97 3 (nf + j) (ntc (fl ++ (l.take j).map (dNote d q))) :: cs) wr) (fun _ s35 _ => l.length - (intOf s35).toNat)
      case atStart => exact ⟨0, FA, fc, by omega, rfl, by rw [List.take_zero, List.map_nil, List.append_nil, Nat.add_zero]; exact hS⟩
      case round =>
        clear hS
        obtain ⟨j, F2, k2, hj, rfl, hS⟩ := hrel
        by_cases hjl : j < l.length
        · have hjl' : (j : Int) < l.length := by omega
          obtain ⟨bB, oB, rfl, hfc⟩ := HRI.out.fc (k := j) (by rw [List.length_map]; exact hjl)
          have HX := Lib.hid (show nth (nats l) j = ((l[j] : Nat) : Int) by rw [nth_eq (by rw [List.length_map]; exact hjl)]; simp [nats])
          rw [HX.out] at hfc
          have HTK := Lib.hid (show (l.take (j + 1)).map (dNote d q) = (l.take j).map (dNote d q) ++ [⟨4, q, l[j]⟩] from by rw [List.take_succ_eq_append_getElem hjl, List.map_append, List.map_cons, List.map_nil, HKK.out])
          generalize l[j] = x at *
          go_wp2_with (first | (go_at_call 96; refine (post_st gm A1 c1 A2 c2 A3 c3 p root n UA uc gp kp gt kt ga ka gr kr gc kc gd kd par aw (dec.set q d) (tent.set q false) ref cvs (fl ++ (l.take j).map (dNote d q)) F2 (nf + j) k2 4 q x hS (by omega)).mono ?_; rintro e w ⟨rfl, F3, k3, hS1⟩; clear hS; have hS := hS1; clear hS1) | (refine oL ?_; ((refine sL7 hS rfl rfl ?_))))
          go_roundw
          case measure => simp [intOf]; try omega
          refine ⟨j + 1, F3, k3, by omega, by go_num, ?_⟩
          rw [HTK.out, ← List.append_assoc]
          exact hS
        · have hjl' : ¬ (j : Int) < l.length := by omega
          have HE := Lib.hid (show j = l.length by omega)
          go_wp2_with (fail)
          go_end0
          rw [List.take_of_length_le (by omega), HE.out] at hS
          refine ⟨rfl, F2, k2, ?_⟩
          first | exact hS | (simp only [ints, List.map_set] at hS ⊢; exact hS)
end Go.Proofs.Ytmjmdncdmmcmaaa

/- The machine of two-phase checkpointing: answer, without. Conditions: the machine is a call's own, its lists are short. -/
namespace Go.Proofs.Ytmjmdncdmmcmaaa
open Go.RowKit Tph
set_option linter.unusedVariables false
set_option linter.unusedSimpArgs false
set_option linter.unusedSectionVars false

set_option maxRecDepth 100000 in
set_option maxHeartbeats 6400000 in
theorem without_any {S : Nat → Prop} (A : Option Addr) (c n : Nat) (l : List Nat) (x : Nat) (w0 : World) (hx : RI S w0 A (nats l)) (hn : l.length = n) (hl : n ≤ 1000) :
    Calls Try.prog 99 #[.slice A n c, .int .i64 (x : Int)] w0 (RetRow w0 3 1 (l.filter (fun y => y != x)).length (ints (nats (l.filter (fun y => y != x))))) := by
  have hS := St.start w0 NoM
  subst hn
  go_enter Try.func99, Try.ntmps99
  go_wp2_with (fail)
  replace hS := hS.addNil 3 1
  go_loopw [5, 7, 10] (fun s5 s7 s10 wr => ∃ (j m c5 : Nat) (L : Option Addr) (k : List Nat), j ≤ l.length ∧ m ≤ j ∧ s10 = .int .i64 j ∧ s5 = .slice L m c5 ∧ Hid (k = (l.take j).filter (fun y => y != x) ∧ k.length = m) ∧ St w0 NoM [row (.slice L m c5) 3 1 m (ints (nats k))] wr) (fun _ _ s10 _ => l.length - (intOf s10).toNat)
  case atStart => exact ⟨0, 0, 0, none, [], by omega, by omega, rfl, rfl, Lib.hid ⟨rfl, rfl⟩, hS⟩
  case round =>
    clear hS
    obtain ⟨j, m, c5, L, k, hj, hm, rfl, rfl, HK, hS⟩ := hrel
    by_cases hjl : j < l.length
    · have hjl' : (j : Int) < l.length := by omega
      obtain ⟨b, o, rfl, _, hc⟩ := hx.atNS (k := j) (by rw [List.length_map]; exact hjl)
      rw [show nth (nats l) j = ((l[j] : Nat) : Int) by rw [nth_eq (by rw [List.length_map]; exact hjl)]; simp [nats]] at hc
      have HTK := Lib.hid (show (l.take (j + 1)).filter (fun y => y != x) = k ++ [l[j]].filter (fun y => y != x) by rw [List.take_succ_eq_append_getElem hjl, List.filter_append, HK.out.1])
      generalize l[j] = y at *
      by_cases he : y = x
      · have e1 : ((y : Int) != (x : Int)) = false := by simp [he]
        have HN := Lib.hid (show (l.take (j + 1)).filter (fun y => y != x) = k by rw [HTK.out]; simp [he])
        clear he HTK
        go_wp2_with (((refine oL ?_; ((refine sL4 hS rfl rfl ?_)))))
        go_roundw
        case measure => simp [intOf]; try omega
        exact ⟨j + 1, m, c5, L, k, by omega, by omega, by go_num, rfl, Lib.hid ⟨HN.out.symm, HK.out.2⟩, hS⟩
      · have e1 : ((y : Int) != (x : Int)) = true := by simp; omega
        have HN := Lib.hid (show (l.take (j + 1)).filter (fun y => y != x) = k ++ [y] by rw [HTK.out]; simp [he])
        clear he HTK
        go_wp2_with (first | (refine oL ?_; ((refine sL4 hS rfl rfl ?_))) | (refine oP ?_; (((refine sP2 hS rfl rfl rfl ?_)); clear hS; (((fail_if_success guard_hyp L1); intro L1 cl1 w hL1 hM1 hS)))) | ((((refine oC ?_; (refine sC1 hS rfl rfl ?_)))); clear hS; (((fail_if_success guard_hyp g1); intro g1 w hS))))
        go_roundw
        case measure => simp [intOf]; try omega
        refine ⟨j + 1, m + 1, cl1, L1, k ++ [y], by omega, by omega, by go_num, rfl, Lib.hid ⟨HN.out.symm, by rw [List.length_append, HK.out.2]; rfl⟩, ?_⟩
        have e : ints (nats (k ++ [y])) = ints (nats k) ++ [.int .i64 (y : Int)] := by simp [ints, nats]
        rw [e]
        exact hS.re
    · have hjl' : ¬ (j : Int) < l.length := by omega
      have HE := Lib.hid (show l.filter (fun y => y != x) = k by have := HK.out.1; rw [List.take_of_length_le (by omega)] at this; exact this.symm)
      have hkl := HK.out.2
      go_wp2_with (fail)
      go_ret
      rw [HE.out, hkl]
      have h9 := hS.ret (L := L) (c := c5) (k := m) rfl
      simp only [ints, nats, List.map_map] at h9 ⊢
      exact h9
set_option maxRecDepth 100000 in
set_option maxHeartbeats 6400000 in
theorem answer_st {w0 w u : World} {M T : Nat → Prop} {cs : List (Chunk w0 M)} (gm : Nat) (A1 : Option Addr) (c1 : Nat) (A2 : Option Addr) (c2 : Nat) (A3 : Option Addr) (c3 : Nat) (p : Pat) (root n : Nat) (UA : Option Addr) (uc gp kp gt kt ga ka gr kr gc kc gd kd : Nat) (par aw dec : List Int) (unw tent ref : List Bool) (ch : List (List Nat)) (cvs : List Value) (fl : List Nt) (FA : Option Addr) (nf fc : Nat) (q pk : Nat) (B : Option Addr) (cB : Nat) (hS : St w0 M (froz T u :: blk gm [.slice A1 p.len.length c1, .slice A2 p.ck.length c2, .slice A3 p.arcs.length c3, .int .i64 (root : Int), .slice UA n uc, .slice (some ⟨gp, 0, none⟩) n kp, .slice (some ⟨gt, 0, none⟩) n kt, .slice (some ⟨ga, 0, none⟩) n ka, .slice (some ⟨gr, 0, none⟩) n kr, .slice (some ⟨gc, 0, none⟩) n kc, .slice (some ⟨gd, 0, none⟩) n kd, .slice FA nf fc] 91 :: row (.slice (some ⟨gp, 0, none⟩) n kp) 3 1 n (ints par) :: row (.slice (some ⟨gt, 0, none⟩) n kt) 4 1 n (bools tent) :: row (.slice (some ⟨ga, 0, none⟩) n ka) 3 1 n (ints aw) :: row (.slice (some ⟨gr, 0, none⟩) n kr) 4 1 n (bools ref) :: row (.slice (some ⟨gc, 0, none⟩) n kc) 25 1 n cvs :: row (.slice (some ⟨gd, 0, none⟩) n kd) 3 1 n (ints dec) :: row (.slice FA nf fc) 97 3 nf (ntc fl) :: cs) w) (hb : nf ≤ 1900) (hq : q < n) (hp : par.length = n) (ht : tent.length = n) (hr : ref.length = n) (hd : dec.length = n) (hcv : cvs[q]? = some (.slice B (chR ch q).length cB)) (hri : RI T u B (nats (chR ch q))) (hl : (chR ch q).length ≤ 5) (hpk : q ≠ root → nth par q = (pk : Int)) :
    Calls Try.prog 95 #[.pointer (some ⟨gm, 0, none⟩), .int .i64 (q : Int)] w fun e w' => e = .returned (.tuple #[]) ∧ ∃ (F2 : Option Addr) (nf2 k2 : Nat), St w0 M (froz T u :: blk gm [.slice A1 p.len.length c1, .slice A2 p.ck.length c2, .slice A3 p.arcs.length c3, .int .i64 (root : Int), .slice UA n uc, .slice (some ⟨gp, 0, none⟩) n kp, .slice (some ⟨gt, 0, none⟩) n kt, .slice (some ⟨ga, 0, none⟩) n ka, .slice (some ⟨gr, 0, none⟩) n kr, .slice (some ⟨gc, 0, none⟩) n kc, .slice (some ⟨gd, 0, none⟩) n kd, .slice F2 nf2 k2] 91 :: row (.slice (some ⟨gp, 0, none⟩) n kp) 3 1 n (ints par) :: row (.slice (some ⟨gt, 0, none⟩) n kt) 4 1 n (bools ((⟨root, unw, par, tent, aw, ref, ch, dec, fl⟩ : TS).ans q).tent) :: row (.slice (some ⟨ga, 0, none⟩) n ka) 3 1 n (ints aw) :: row (.slice (some ⟨gr, 0, none⟩) n kr) 4 1 n (bools ref) :: row (.slice (some ⟨gc, 0, none⟩) n kc) 25 1 n cvs :: row (.slice (some ⟨gd, 0, none⟩) n kd) 3 1 n (ints ((⟨root, unw, par, tent, aw, ref, ch, dec, fl⟩ : TS).ans q).dec) :: row (.slice F2 nf2 k2) 97 3 nf2 (ntc ((⟨root, unw, par, tent, aw, ref, ch, dec, fl⟩ : TS).ans q).fl) :: cs) w' := by
  have HCV := Lib.hid (And.intro hcv hri)
  clear hcv hri
  have hq' : (q : Int) < (n : Int) := by omega
  have hrq := opOf_at (l := ref) (q := q) (by omega)
  have HA := Lib.hid (show (⟨root, unw, par, tent, aw, ref, ch, dec, fl⟩ : TS).ans q = if q = root then (if opOf ref q then (⟨root, unw, par, tent, aw, ref, ch, dec, fl⟩ : TS).dcd q 2 else (⟨root, unw, par, tent, aw, ref, ch, dec, fl⟩ : TS).dcd q 1) else if opOf ref q then ((⟨root, unw, par, tent, aw, ref, ch, dec, fl⟩ : TS).post ⟨3, q, (parN par q).toNat⟩).dcd q 2 else (⟨root, unw, par, tent, aw, ref, ch, dec, fl⟩ : TS).post ⟨2, q, (parN par q).toNat⟩ from rfl)
  by_cases hqr : q = root
  · have e1 : ((q : Int) == (root : Int)) = true := by simp [hqr]
    rw [if_pos hqr] at HA
    clear hpk hqr
    generalize opOf ref q = b at *
    cases b with
    | true =>
      have HANS := Lib.hid (HA.out.trans (if_pos rfl))
      go_enter Try.func95, Try.ntmps95
      go_wp2_with (first | (go_at_call 100; refine (decide_st gm A1 c1 A2 c2 A3 c3 p root n UA uc gp kp gt kt ga ka gr kr gc kc gd kd par aw dec tent ref cvs fl FA nf fc q 2 (chR ch q) B cB hS (by omega) hq ht hd HCV.out.1 HCV.out.2 hl (.inr rfl)).mono ?_; rintro e w ⟨rfl, F2, k2, hS1⟩; clear hS; have hS := hS1; clear hS1) | (refine oL ?_; (first | refine sL1 hS rfl rfl rfl ?_ | refine sL5 hS rfl rfl ?_)))
      go_end0
      refine ⟨rfl, F2, nf + (chR ch q).length, k2, ?_⟩
      rw [HANS.out]
      first | exact hS | (simp only [ints, List.map_set] at hS ⊢; exact hS)
    | false =>
      have HANS := Lib.hid (HA.out.trans (if_neg (by decide)))
      go_enter Try.func95, Try.ntmps95
      go_wp2_with (first | (go_at_call 100; refine (decide_st gm A1 c1 A2 c2 A3 c3 p root n UA uc gp kp gt kt ga ka gr kr gc kc gd kd par aw dec tent ref cvs fl FA nf fc q 1 (chR ch q) B cB hS (by omega) hq ht hd HCV.out.1 HCV.out.2 hl (.inl rfl)).mono ?_; rintro e w ⟨rfl, F2, k2, hS1⟩; clear hS; have hS := hS1; clear hS1) | (refine oL ?_; (first | refine sL1 hS rfl rfl rfl ?_ | refine sL5 hS rfl rfl ?_)))
      go_end0
      refine ⟨rfl, F2, nf + (chR ch q).length, k2, ?_⟩
      rw [HANS.out]
      first | exact hS | (simp only [ints, List.map_set] at hS ⊢; exact hS)
  · have e1 : ((q : Int) == (root : Int)) = false := by simp; omega
    rw [if_neg hqr] at HA
    have hpk2 := hpk hqr
    have hpn : (parN par q).toNat = pk := by
      have : parN par q = nth par q := by unfold parN nth; rw [List.getD_eq_getElem?_getD, List.getD_eq_getElem?_getD, List.getElem?_eq_getElem (by omega)]; rfl
      rw [this, hpk2]; simp
    rw [hpn] at HA
    have hpq := nth_at (l := par) (q := q) (by omega)
    rw [hpk2] at hpq
    clear hpk hqr hpk2 hpn
    generalize opOf ref q = b at *
    cases b with
    | true =>
      have HANS := Lib.hid (HA.out.trans (if_pos rfl))
      go_enter Try.func95, Try.ntmps95
      go_wp2_with (first | (go_at_call 96; refine (post_st gm A1 c1 A2 c2 A3 c3 p root n UA uc gp kp gt kt ga ka gr kr gc kc gd kd par aw dec tent ref cvs fl FA nf fc 3 q pk hS (by omega)).mono ?_; rintro e w ⟨rfl, F3, k3, hS1⟩; clear hS; have hS := hS1; clear hS1) | (go_at_call 100; refine (decide_st gm A1 c1 A2 c2 A3 c3 p root n UA uc gp kp gt kt ga ka gr kr gc kc gd kd par aw dec tent ref cvs (fl ++ [⟨3, q, pk⟩]) F3 (nf + 1) k3 q 2 (chR ch q) B cB hS (by omega) hq ht hd HCV.out.1 HCV.out.2 hl (.inr rfl)).mono ?_; rintro e w ⟨rfl, F2, k2, hS1⟩; clear hS; have hS := hS1; clear hS1) | (refine oL ?_; (first | refine sL1 hS rfl rfl rfl ?_ | refine sL5 hS rfl rfl ?_)))
      go_end0
      refine ⟨rfl, F2, nf + 1 + (chR ch q).length, k2, ?_⟩
      rw [HANS.out]
      first | exact hS | (simp only [ints, List.map_set] at hS ⊢; exact hS)
    | false =>
      have HANS := Lib.hid (HA.out.trans (if_neg (by decide)))
      go_enter Try.func95, Try.ntmps95
      go_wp2_with (first | (go_at_call 96; refine (post_st gm A1 c1 A2 c2 A3 c3 p root n UA uc gp kp gt kt ga ka gr kr gc kc gd kd par aw dec tent ref cvs fl FA nf fc 2 q pk hS (by omega)).mono ?_; rintro e w ⟨rfl, F3, k3, hS1⟩; clear hS; have hS := hS1; clear hS1) | (refine oL ?_; (first | refine sL1 hS rfl rfl rfl ?_ | refine sL5 hS rfl rfl ?_)))
      go_end0
      refine ⟨rfl, F3, nf + 1, k3, ?_⟩
      rw [HANS.out]
      first | exact hS | (simp only [ints, List.map_set] at hS ⊢; exact hS)
end Go.Proofs.Ytmjmdncdmmcmaaa

