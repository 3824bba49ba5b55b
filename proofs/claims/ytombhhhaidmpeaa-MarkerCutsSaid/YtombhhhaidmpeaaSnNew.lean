/- marker.New and rollbacknetref23.New. Conditions: the values lie in memory. -/
import Derived.Test.YtombhhhaidmpeaaMakers
import Derived.Test.YtombhhhaidmpeaaSnMem
import Derived.Test.YtombhhhaidmpeaaGc
import Derived.Test.YtombhhhaidmpeaaClones
import Derived.Deep.DeepCutAuto
namespace Go.Proofs.Ytombhhhaidmpeaa
open Go.RowKit
set_option linter.unusedVariables false
set_option linter.unusedSimpArgs false
set_option linter.unusedSectionVars false

/-- make: all elements are the zero value, one cell each -/
theorem sMV {P : Program} {ops : Array Oper} {Q : Exit → Act → World → Prop} {a : Act} {w w0 : World} {M : Nat → Prop} {cs : List (Chunk w0 M)} {rest : List Oper} {d : Option Tmp} {tt ty e : TypeId} {pos : String} {af : Array Edge} {gd : Option (Nat × Bool)} {x y : Operand} {bytes n : Nat} {z1 z2 : Int} {u : Value} (hS : St w0 M cs w) [hT : ElemC P ty e 1 bytes] [hz : TyZ P e [u]] (hw : Region.wanted ⟨d, .makeSlice ty x y, tt, pos, af, gd⟩ (yielded ops a.tmps) = true)
    (hx' : oval a x = some (.int .i64 z1)) (hy' : oval a y = some (.int .i64 z2)) (h1 : z1 = n) (h2 : z2 = n) (hb : bytes * n ≤ 140737488355328)
    (k : ∀ g w', St w0 M (row (.slice (some ⟨g, 0, none⟩) n n) e 1 n (List.replicate n u) :: cs) w' → wpList P ops Q rest (a.put d (.slice (some ⟨g, 0, none⟩) n n)) w') : wpList P ops Q (⟨d, .makeSlice ty x y, tt, pos, af, gd⟩ :: rest) a w := by
  refine st_mkG (n := n) hS hw hx' hy' h1 h2 hb ?_
  intro g w' z hz' h
  have hzc : z.cells = #[u] := by
    have h3 := hz.zero
    cases hi : P.info? e with
    | none => rw [hi] at h3; cases h3
    | some i =>
      rw [hi] at h3 hz'
      simp only [Option.map_some, Option.some.injEq] at h3 hz'
      rw [hz'] at h3
      simp only [Option.map_some, Option.some.injEq] at h3
      exact Array.toList_inj.1 h3
  rw [made1 hzc, Nat.mul_one] at h
  exact k g w' h
/-- what a step returns: a state, an error; all old memory is as it was -/
def RetS (S : Nat → Prop) (w0 : World) (s : Snp) (err : Int) (e : Ending) (w' : World) : Prop := ∃ v : SV, e = .returned (.tuple #[v.val s.vals.length s.chs.length, .int .i64 err]) ∧ SnAt (Orn S w0) w' v s ∧ Ext w0 w'
theorem RetS.none (S : Nat → Prop) {w0 w : World} {err : Int} (hx : Ext w0 w) : RetS S w0 .none err (.returned (.tuple #[.agg #[.slice .none 0 0, .slice .none 0 0, .slice .none 0 0, .slice .none 0 0, .slice .none 0 0, .slice .none 0 0, .slice .none 0 0], .int .i64 err])) w := ⟨.none, rfl, SnAt.none _ _, hx⟩
/-- what New returns -/
def newR (vs : List Int) : Snp × Int := if 1 ≤ vs.length ∧ vs.length ≤ 5 then (newS vs, 0) else (.none, 3)
theorem RetS.mk {S : Nat → Prop} {w0 w : World} {s : Snp} {err : Int} {n m : Nat} (h1 : s.vals.length = n) (h2 : s.chs.length = m) (v : SV) (h : SnAt (Orn S w0) w v s) (hx : Ext w0 w) : RetS S w0 s err (.returned (.tuple #[.agg #[.slice v.A1 n v.c1, .slice v.A2 n v.c2, .slice v.A3 m v.c3, .slice v.A4 n v.c4, .slice v.A5 n v.c5, .slice v.A6 m v.c6, .slice v.A7 m v.c7], .int .i64 err])) w := by
  subst h1 h2; exact ⟨v, rfl, h, hx⟩
theorem fill_step {q n : Nat} (h : q < n) : (List.replicate q (-1 : Int) ++ List.replicate (n - q) 0).set q (-1) = List.replicate (q + 1) (-1) ++ List.replicate (n - (q + 1)) 0 := by
  rw [List.set_append_right _ _ (by simp)]
  simp only [List.length_replicate, Nat.sub_self]
  rw [show n - q = (n - (q + 1)) + 1 by omega, List.replicate_succ, List.set_cons_zero, List.replicate_succ', List.append_assoc]
  rfl
/-- the piece of a new variable -/
def ptrC {w0 : World} {M : Nat → Prop} (us : List Value) (t : TypeId) : Value → Chunk w0 M
  | .pointer (some p) => blk p.block us t
  | _ => nop
abbrev sn0 : List Value := [.slice none 0 0, .slice none 0 0, .slice none 0 0, .slice none 0 0, .slice none 0 0, .slice none 0 0, .slice none 0 0]
theorem bools_rep (n : Nat) : bools (List.replicate n false) = List.replicate n (.bool false) := by simp [bools]
theorem Rw2.repCh (S : Nat → Prop) (w : World) (n : Nat) : Rw2 (ChV S w) (List.replicate n (.slice none 0 0)) (List.replicate n []) := Rw2.rep n (ChV.nil S w)
theorem Rw2.repRe (S : Nat → Prop) (w : World) (n : Nat) : Rw2 (ReV S w) (List.replicate n (.slice none 0 0)) (List.replicate n []) := Rw2.rep n (ReV.nil S w)
set_option maxRecDepth 100000 in
set_option maxHeartbeats 3200000 in
theorem snew_any {S : Nat → Prop} (A : Option Addr) (c : Nat) (vs : List Int) (w0 : World) (hv : RI S w0 A vs) (hl : vs.length ≤ 1000) :
    Calls Try.prog 32 #[.slice A vs.length c] w0 (RetS (fun _ => False) w0 (newR vs).1 (newR vs).2) := by
  have hS := St.start w0 NoM
  by_cases h1 : vs.length < 1
  · rw [newR, if_neg (by omega)]
    have d1 : decide (vs.length < 1) = true := decide_eq_true h1
    have h0 : vs.length = 0 := by omega
    go_enter Try.func32, Try.ntmps32
    go_wp2_with (first | (refine oL ?_; (first | refine sL1 hS rfl rfl rfl ?_ | refine sL2 hS rfl rfl rfl ?_ | refine sL3 hS rfl rfl ?_ | refine sL4 hS rfl rfl ?_ | refine sL5 hS rfl rfl ?_ | refine sL6 hS rfl rfl ?_ | refine sL7 hS rfl rfl ?_)) | (refine oS ?_; ((first | refine sS1 hS rfl rfl rfl ?_ | refine sS2 hS rfl rfl rfl ?_ | refine sS3 hS rfl rfl rfl ?_ | refine sS4 hS rfl rfl rfl ?_ | refine sS5 hS rfl rfl rfl ?_); clear hS; intro w hS)) | ((first | refine sN1 hS rfl ?_); clear hS; first | ((fail_if_success guard_hyp g1); intro g1 w hS) | ((fail_if_success guard_hyp g2); intro g2 w hS) | ((fail_if_success guard_hyp g3); intro g3 w hS) | ((fail_if_success guard_hyp g4); intro g4 w hS) | ((fail_if_success guard_hyp g5); intro g5 w hS) | ((fail_if_success guard_hyp g6); intro g6 w hS) | ((fail_if_success guard_hyp g7); intro g7 w hS) | ((fail_if_success guard_hyp g8); intro g8 w hS) | ((fail_if_success guard_hyp g9); intro g9 w hS) | fail) | fail)
    refine st_retCT hS rfl rfl rfl rfl rfl ?_
    exact RetS.none _ hS.toExt
  · by_cases h5 : 5 < vs.length
    · rw [newR, if_neg (by omega)]
      have d1 : decide (vs.length < 1) = false := decide_eq_false h1
      have d2 : decide (5 < vs.length) = true := decide_eq_true h5
      go_enter Try.func32, Try.ntmps32
      go_wp2_with (first | (refine oL ?_; (first | refine sL1 hS rfl rfl rfl ?_ | refine sL2 hS rfl rfl rfl ?_ | refine sL3 hS rfl rfl ?_ | refine sL4 hS rfl rfl ?_ | refine sL5 hS rfl rfl ?_ | refine sL6 hS rfl rfl ?_ | refine sL7 hS rfl rfl ?_)) | (refine oS ?_; ((first | refine sS1 hS rfl rfl rfl ?_ | refine sS2 hS rfl rfl rfl ?_ | refine sS3 hS rfl rfl rfl ?_ | refine sS4 hS rfl rfl rfl ?_ | refine sS5 hS rfl rfl rfl ?_); clear hS; intro w hS)) | ((first | refine sN1 hS rfl ?_); clear hS; first | ((fail_if_success guard_hyp g1); intro g1 w hS) | ((fail_if_success guard_hyp g2); intro g2 w hS) | ((fail_if_success guard_hyp g3); intro g3 w hS) | ((fail_if_success guard_hyp g4); intro g4 w hS) | ((fail_if_success guard_hyp g5); intro g5 w hS) | ((fail_if_success guard_hyp g6); intro g6 w hS) | ((fail_if_success guard_hyp g7); intro g7 w hS) | ((fail_if_success guard_hyp g8); intro g8 w hS) | ((fail_if_success guard_hyp g9); intro g9 w hS) | fail) | fail)
      refine st_retCT hS rfl rfl rfl rfl rfl ?_
      exact RetS.none _ hS.toExt
    · rw [newR, if_pos (by omega)]
      simp only
      have d1 : decide (vs.length < 1) = false := decide_eq_false h1
      have d2 : decide (5 < vs.length) = false := decide_eq_false h5
      obtain ⟨nn, hnn⟩ : ∃ nn : Nat, vs.length * vs.length = nn := ⟨_, rfl⟩
      have hnn' : ((vs.length : Int)) * (vs.length : Int) = (nn : Int) := by rw [← hnn]; simp
      have hnn25 : nn ≤ 25 := by rw [← hnn]; exact Nat.mul_le_mul (show vs.length ≤ 5 by omega) (show vs.length ≤ 5 by omega)
      have HNN := Lib.hid hnn
      have HNS := Lib.hid (Eq.refl (newS vs))
      clear hnn
      have HV := Lib.hid (And.intro hv (show (ints vs).length = vs.length by simp))
      clear hv
      generalize hn : vs.length = n at *
      have HN := Lib.hid hn
      clear hn
      go_enter Try.func32, Try.ntmps32
      go_upto_region 4 with (first | (refine oL ?_; (first | refine sL1 hS rfl rfl rfl ?_ | refine sL2 hS rfl rfl rfl ?_ | refine sL3 hS rfl rfl ?_ | refine sL4 hS rfl rfl ?_ | refine sL5 hS rfl rfl ?_ | refine sL6 hS rfl rfl ?_ | refine sL7 hS rfl rfl ?_)) | (refine oS ?_; ((first | refine sS1 hS rfl rfl rfl ?_ | refine sS2 hS rfl rfl rfl ?_ | refine sS3 hS rfl rfl rfl ?_ | refine sS4 hS rfl rfl rfl ?_ | refine sS5 hS rfl rfl rfl ?_); clear hS; intro w hS)) | ((first | refine sN1 hS rfl ?_); clear hS; first | ((fail_if_success guard_hyp g1); intro g1 w hS) | ((fail_if_success guard_hyp g2); intro g2 w hS) | ((fail_if_success guard_hyp g3); intro g3 w hS) | ((fail_if_success guard_hyp g4); intro g4 w hS) | ((fail_if_success guard_hyp g5); intro g5 w hS) | ((fail_if_success guard_hyp g6); intro g6 w hS) | ((fail_if_success guard_hyp g7); intro g7 w hS) | ((fail_if_success guard_hyp g8); intro g8 w hS) | ((fail_if_success guard_hyp g9); intro g9 w hS) | fail) | fail)
      refine dr_start0 [22]  hS (by kernel_rfl) rfl ?_; clear hS; intro w hS
      refine dM hS 0 rfl rfl rfl ?_
      (try simp only [Act.put, nA, nB, nC])
      refine dM hS 2 rfl rfl rfl ?_
      (try simp only [Act.put, nA, nB, nC])
      refine dM hS 4 rfl rfl rfl ?_
      (try simp only [Act.put, nA, nB, nC])
      refine dM hS 5 rfl rfl rfl ?_
      (try simp only [Act.put, nA, nB, nC])
      refine dP hS 6 rfl rfl ?_
      (try simp only [Act.put, nA, nB, nC])
      refine dM hS 8 rfl rfl rfl ?_
      (try simp only [Act.put, nA, nB, nC])
      refine dM hS 10 rfl rfl rfl ?_
      (try simp only [Act.put, nA, nB, nC])
      refine dM hS 12 rfl rfl rfl ?_
      (try simp only [Act.put, nA, nB, nC])
      refine dM hS 13 rfl rfl rfl ?_
      (try simp only [Act.put, nA, nB, nC])
      refine dP hS 14 rfl rfl ?_
      (try simp only [Act.put, nA, nB, nC])
      refine dM hS 16 rfl rfl rfl ?_
      (try simp only [Act.put, nA, nB, nC])
      refine dM hS 17 rfl rfl rfl ?_
      (try simp only [Act.put, nA, nB, nC])
      refine dP hS 18 rfl rfl ?_
      (try simp only [Act.put, nA, nB, nC])
      refine dr_makers1 (ds := [17, 19, 23, 25, 27, 31, 35, 5]) (a0 := _) ⟨21, 5, ptrC sn0 56, fun v => ∃ g, v = .pointer (some ⟨g, 0, none⟩)⟩ ?_ (by rfl) 7
        [⟨1, 17, fun v => row v 3 1 n (ints vs), fun v => ∃ L c, v = .slice L n c⟩, ⟨3, 19, fun v => row v 3 1 n (ints (List.replicate n 0)), fun v => ∃ g, v = .slice (some ⟨g, 0, none⟩) n n⟩, ⟨7, 23, fun v => row v 63 1 nn (List.replicate nn (.slice none 0 0)), fun v => ∃ g, v = .slice (some ⟨g, 0, none⟩) nn nn⟩,
         ⟨9, 25, fun v => row v 3 1 n (ints (List.replicate n 0)), fun v => ∃ g, v = .slice (some ⟨g, 0, none⟩) n n⟩, ⟨11, 27, fun v => row v 3 1 n (ints (List.replicate n 0)), fun v => ∃ g, v = .slice (some ⟨g, 0, none⟩) n n⟩, ⟨15, 31, fun v => row v 4 1 nn (List.replicate nn (.bool false)), fun v => ∃ g, v = .slice (some ⟨g, 0, none⟩) nn nn⟩,
         ⟨19, 35, fun v => row v 24 1 nn (List.replicate nn (.slice none 0 0)), fun v => ∃ g, v = .slice (some ⟨g, 0, none⟩) nn nn⟩] rfl _ _ _ _ (MkrsOk.mk' ?_ (by kernel_rfl) (by kernel_rfl) (by simp) (by simp) (by kernel_rfl)) (List.contains_iff_mem.1 (by kernel_rfl)) ?_ (fun _ _ => rfl) hS (fun c hc => hc) ?_ ?_
      · exact ⟨_, rfl, fun cs a w K hL hS k => sN1 hS rfl (fun g w' hS' => wpList_nil (k _ _ ⟨g, rfl⟩ hS'))⟩
      · intro m hm
        simp only [List.mem_cons, List.not_mem_nil, or_false] at hm
        rcases hm with rfl | rfl | rfl | rfl | rfl | rfl | rfl
        · refine ⟨_, rfl, fun cs a w K hL hS k => ?_⟩
          refine st_call (vs := [.slice A n c]) rfl (by kernel_rfl) (by simp only [ovals]; rw [hL.oval rfl rfl]) ?_
          refine (cloneVI_any A c n (ints vs) w (HV.out.1.ext hS.toExt) HV.out.2 (oneCell_ints vs) (by omega)).mono ?_
          rintro e w' ⟨L, cl, rfl, ho, hx⟩
          exact wpList_nil (k _ _ ⟨L, cl, rfl⟩ (hS.addRow ho hx))
        · exact ⟨_, rfl, fun cs a w K hL hS k => by rw [ints_replicate]; exact sMV hS rfl (hL.oval rfl rfl) (hL.oval rfl rfl) rfl rfl (by omega) (fun g w' hS' => wpList_nil (k _ _ ⟨g, rfl⟩ (by rw [ints_replicate]; exact hS')))⟩
        · exact ⟨_, rfl, fun cs a w K hL hS k => sMV hS rfl (hL.oval rfl rfl) (hL.oval rfl rfl) rfl rfl (by omega) (fun g w' hS' => wpList_nil (k _ _ ⟨g, rfl⟩ hS'))⟩
        · exact ⟨_, rfl, fun cs a w K hL hS k => sMV hS rfl (hL.oval rfl rfl) (hL.oval rfl rfl) rfl rfl (by omega) (fun g w' hS' => wpList_nil (k _ _ ⟨g, rfl⟩ (by rw [ints_replicate]; exact hS')))⟩
        · exact ⟨_, rfl, fun cs a w K hL hS k => sMV hS rfl (hL.oval rfl rfl) (hL.oval rfl rfl) rfl rfl (by omega) (fun g w' hS' => wpList_nil (k _ _ ⟨g, rfl⟩ (by rw [ints_replicate]; exact hS')))⟩
        · exact ⟨_, rfl, fun cs a w K hL hS k => sMV hS rfl (hL.oval rfl rfl) (hL.oval rfl rfl) rfl rfl (by omega) (fun g w' hS' => wpList_nil (k _ _ ⟨g, rfl⟩ hS'))⟩
        · exact ⟨_, rfl, fun cs a w K hL hS k => sMV hS rfl (hL.oval rfl rfl) (hL.oval rfl rfl) rfl rfl (by omega) (fun g w' hS' => wpList_nil (k _ _ ⟨g, rfl⟩ hS'))⟩
      · intro m hm
        simp only [List.mem_cons, List.not_mem_nil, or_false] at hm
        rcases hm with rfl | rfl | rfl | rfl | rfl | rfl | rfl <;> simp
      · intro us w' hus hS'
        match us, hus with
        | [_, _, _, _, _, _, _], ⟨⟨L1, k1, rfl⟩, ⟨q2, rfl⟩, ⟨q3, rfl⟩, ⟨q4, rfl⟩, ⟨q5, rfl⟩, ⟨q6, rfl⟩, ⟨q7, rfl⟩, _⟩ =>
        simp only [pczM, lstM, putsM, List.cons_append, List.nil_append] at hS' ⊢
        (try simp only [Act.put, nA, nB, nC])
        clear hS
        have hS := hS'
        clear hS'
        refine dP hS 20 rfl rfl ?_
        (try simp only [Act.put, nA, nB, nC])
        refine dr_one 21 (by kernel_rfl) rfl ?_
        (refine sN1 hS rfl ?_; clear hS; first | ((fail_if_success guard_hyp g1); intro g1 w hS) | ((fail_if_success guard_hyp g2); intro g2 w hS) | ((fail_if_success guard_hyp g3); intro g3 w hS) | ((fail_if_success guard_hyp g4); intro g4 w hS) | ((fail_if_success guard_hyp g5); intro g5 w hS) | ((fail_if_success guard_hyp g6); intro g6 w hS) | ((fail_if_success guard_hyp g7); intro g7 w hS) | ((fail_if_success guard_hyp g8); intro g8 w hS) | ((fail_if_success guard_hyp g9); intro g9 w hS) | fail)
        (try simp only [Act.put, nA, nB, nC])
        refine dr_end hS ?_
        refine dr_one 22 (by kernel_rfl) rfl ?_
        ((first | refine sS1 hS rfl rfl rfl ?_ | refine sS2 hS rfl rfl rfl ?_ | refine sS3 hS rfl rfl rfl ?_ | refine sS4 hS rfl rfl rfl ?_ | refine sS5 hS rfl rfl rfl ?_); clear hS; intro w hS)
        (try simp only [Act.put, nA, nB, nC])
        refine dr_late (by kernel_rfl) ?_
        refine dr_done (by kernel_rfl) ?_
        (try simp only [Act.put, nA, nB, nC])
        go_wp2_with (first | (refine oL ?_; (first | refine sL1 hS rfl rfl rfl ?_ | refine sL2 hS rfl rfl rfl ?_ | refine sL3 hS rfl rfl ?_ | refine sL4 hS rfl rfl ?_ | refine sL5 hS rfl rfl ?_ | refine sL6 hS rfl rfl ?_ | refine sL7 hS rfl rfl ?_)) | (refine oS ?_; ((first | refine sS1 hS rfl rfl rfl ?_ | refine sS2 hS rfl rfl rfl ?_ | refine sS3 hS rfl rfl rfl ?_ | refine sS4 hS rfl rfl rfl ?_ | refine sS5 hS rfl rfl rfl ?_); clear hS; intro w hS)) | ((first | refine sN1 hS rfl ?_); clear hS; first | ((fail_if_success guard_hyp g1); intro g1 w hS) | ((fail_if_success guard_hyp g2); intro g2 w hS) | ((fail_if_success guard_hyp g3); intro g3 w hS) | ((fail_if_success guard_hyp g4); intro g4 w hS) | ((fail_if_success guard_hyp g5); intro g5 w hS) | ((fail_if_success guard_hyp g6); intro g6 w hS) | ((fail_if_success guard_hyp g7); intro g7 w hS) | ((fail_if_success guard_hyp g8); intro g8 w hS) | ((fail_if_success guard_hyp g9); intro g9 w hS) | fail) | fail)
        go_loopw [38] (fun s38 wr => ∃ (q : Nat) (zs : List Int), q ≤ n ∧ zs.length = n ∧ s38 = .int .i64 q ∧ Hid (zs = List.replicate q (-1 : Int) ++ List.replicate (n - q) 0) ∧ St w0 NoM [row (.slice L1 n k1) 3 1 n (ints vs), row (.slice (some ⟨q2, 0, none⟩) n n) 3 1 n (ints (List.replicate n 0)), row (.slice (some ⟨q3, 0, none⟩) nn nn) 63 1 nn (List.replicate nn (.slice none 0 0)), row (.slice (some ⟨q4, 0, none⟩) n n) 3 1 n (ints zs), row (.slice (some ⟨q5, 0, none⟩) n n) 3 1 n (ints (List.replicate n 0)), row (.slice (some ⟨q6, 0, none⟩) nn nn) 4 1 nn (List.replicate nn (.bool false)), row (.slice (some ⟨q7, 0, none⟩) nn nn) 24 1 nn (List.replicate nn (.slice none 0 0)), blk g2 [.slice L1 n k1, .slice (some ⟨q2, 0, none⟩) n n, .slice (some ⟨q3, 0, none⟩) nn nn, .slice (some ⟨q4, 0, none⟩) n n, .slice (some ⟨q5, 0, none⟩) n n, .slice (some ⟨q6, 0, none⟩) nn nn, .slice (some ⟨q7, 0, none⟩) nn nn] 56, blk g1 sn0 56] wr) (fun s38 _ => n - (intOf s38).toNat)
        case atStart => exact ⟨0, List.replicate n 0, by omega, by simp, rfl, Lib.hid (by simp), hS.re⟩
        case round =>
          clear hS
          obtain ⟨q, zs, hq, hzl, rfl, HZ, hS⟩ := hrel
          by_cases hlt : q < n
          · have hqz : q < zs.length := by omega
            have HF := Lib.hid (fill_step hlt)
            go_wp2_with (first | (refine oL ?_; (first | refine sL1 hS rfl rfl rfl ?_ | refine sL2 hS rfl rfl rfl ?_ | refine sL3 hS rfl rfl ?_ | refine sL4 hS rfl rfl ?_ | refine sL5 hS rfl rfl ?_ | refine sL6 hS rfl rfl ?_ | refine sL7 hS rfl rfl ?_)) | (refine oS ?_; ((first | refine sS1 hS rfl rfl rfl ?_ | refine sS2 hS rfl rfl rfl ?_ | refine sS3 hS rfl rfl rfl ?_ | refine sS4 hS rfl rfl rfl ?_ | refine sS5 hS rfl rfl rfl ?_); clear hS; intro w hS)) | ((first | refine sN1 hS rfl ?_); clear hS; first | ((fail_if_success guard_hyp g1); intro g1 w hS) | ((fail_if_success guard_hyp g2); intro g2 w hS) | ((fail_if_success guard_hyp g3); intro g3 w hS) | ((fail_if_success guard_hyp g4); intro g4 w hS) | ((fail_if_success guard_hyp g5); intro g5 w hS) | ((fail_if_success guard_hyp g6); intro g6 w hS) | ((fail_if_success guard_hyp g7); intro g7 w hS) | ((fail_if_success guard_hyp g8); intro g8 w hS) | ((fail_if_success guard_hyp g9); intro g9 w hS) | fail) | fail)
            go_roundw
            case measure => simp [intOf]; omega
            exact ⟨q + 1, zs.set q (-1), by omega, by simp [hzl], by go_num, Lib.hid (by rw [HZ.out]; exact HF.out), hS.re⟩
          · have HC := Lib.hid (show zs = (newS vs).cut by have := HZ.out; rw [show q = n by omega, Nat.sub_self] at this; simp only [List.replicate_zero, List.append_nil] at this; rw [this]; simp only [newS, HN.out])
            clear HZ
            go_wp2_with (first | (refine oL ?_; (first | refine sL1 hS rfl rfl rfl ?_ | refine sL2 hS rfl rfl rfl ?_ | refine sL3 hS rfl rfl ?_ | refine sL4 hS rfl rfl ?_ | refine sL5 hS rfl rfl ?_ | refine sL6 hS rfl rfl ?_ | refine sL7 hS rfl rfl ?_)) | (refine oS ?_; ((first | refine sS1 hS rfl rfl rfl ?_ | refine sS2 hS rfl rfl rfl ?_ | refine sS3 hS rfl rfl rfl ?_ | refine sS4 hS rfl rfl rfl ?_ | refine sS5 hS rfl rfl rfl ?_); clear hS; intro w hS)) | ((first | refine sN1 hS rfl ?_); clear hS; first | ((fail_if_success guard_hyp g1); intro g1 w hS) | ((fail_if_success guard_hyp g2); intro g2 w hS) | ((fail_if_success guard_hyp g3); intro g3 w hS) | ((fail_if_success guard_hyp g4); intro g4 w hS) | ((fail_if_success guard_hyp g5); intro g5 w hS) | ((fail_if_success guard_hyp g6); intro g6 w hS) | ((fail_if_success guard_hyp g7); intro g7 w hS) | ((fail_if_success guard_hyp g8); intro g8 w hS) | ((fail_if_success guard_hyp g9); intro g9 w hS) | fail) | fail)
            refine st_retCT hS rfl rfl rfl rfl rfl ?_
            refine RetS.mk HN.out (by simp only [newS, List.length_replicate]; rw [HN.out]; exact HNN.out) ⟨L1, k1, some ⟨q2, 0, none⟩, n, some ⟨q3, 0, none⟩, nn, some ⟨q4, 0, none⟩, n, some ⟨q5, 0, none⟩, n, some ⟨q6, 0, none⟩, nn, some ⟨q7, 0, none⟩, nn⟩ ⟨hS.riNew, ?_, ?_, ?_, ?_, ?_, ?_⟩ hS.toExt
            · simp only [newS, HN.out]; exact hS.riNew
            · simp only [newS, HN.out, HNN.out]; exact ⟨_, hS.rvNew, Rw2.repCh _ _ _⟩
            · rw [← HC.out]; exact hS.riNew
            · simp only [newS, HN.out]; exact hS.riNew
            · simp only [newS, HN.out, HNN.out, bools_rep]; exact hS.rvNew
            · simp only [newS, HN.out, HNN.out]; exact ⟨_, hS.rvNew, Rw2.repRe _ _ _⟩
      · intro v us w' hv hus hS'
        obtain ⟨g2, rfl⟩ := hv
        match us, hus with
        | [_, _, _, _, _, _, _], ⟨⟨L1, k1, rfl⟩, ⟨q2, rfl⟩, ⟨q3, rfl⟩, ⟨q4, rfl⟩, ⟨q5, rfl⟩, ⟨q6, rfl⟩, ⟨q7, rfl⟩, _⟩ =>
        simp only [pczM, lstM, putsM, ptrC, List.cons_append, List.nil_append] at hS' ⊢
        (try simp only [Act.put, nA, nB, nC])
        clear hS
        have hS := hS'
        clear hS'
        refine dP hS 20 rfl rfl ?_
        (try simp only [Act.put, nA, nB, nC])
        refine dr_one 22 (by kernel_rfl) rfl ?_
        ((first | refine sS1 hS rfl rfl rfl ?_ | refine sS2 hS rfl rfl rfl ?_ | refine sS3 hS rfl rfl rfl ?_ | refine sS4 hS rfl rfl rfl ?_ | refine sS5 hS rfl rfl rfl ?_); clear hS; intro w hS)
        (try simp only [Act.put, nA, nB, nC])
        refine dr_late (by kernel_rfl) ?_
        refine dr_done (by kernel_rfl) ?_
        (try simp only [Act.put, nA, nB, nC])
        go_wp2_with (first | (refine oL ?_; (first | refine sL1 hS rfl rfl rfl ?_ | refine sL2 hS rfl rfl rfl ?_ | refine sL3 hS rfl rfl ?_ | refine sL4 hS rfl rfl ?_ | refine sL5 hS rfl rfl ?_ | refine sL6 hS rfl rfl ?_ | refine sL7 hS rfl rfl ?_)) | (refine oS ?_; ((first | refine sS1 hS rfl rfl rfl ?_ | refine sS2 hS rfl rfl rfl ?_ | refine sS3 hS rfl rfl rfl ?_ | refine sS4 hS rfl rfl rfl ?_ | refine sS5 hS rfl rfl rfl ?_); clear hS; intro w hS)) | ((first | refine sN1 hS rfl ?_); clear hS; first | ((fail_if_success guard_hyp g1); intro g1 w hS) | ((fail_if_success guard_hyp g2); intro g2 w hS) | ((fail_if_success guard_hyp g3); intro g3 w hS) | ((fail_if_success guard_hyp g4); intro g4 w hS) | ((fail_if_success guard_hyp g5); intro g5 w hS) | ((fail_if_success guard_hyp g6); intro g6 w hS) | ((fail_if_success guard_hyp g7); intro g7 w hS) | ((fail_if_success guard_hyp g8); intro g8 w hS) | ((fail_if_success guard_hyp g9); intro g9 w hS) | fail) | fail)
        go_loopw [38] (fun s38 wr => ∃ (q : Nat) (zs : List Int), q ≤ n ∧ zs.length = n ∧ s38 = .int .i64 q ∧ Hid (zs = List.replicate q (-1 : Int) ++ List.replicate (n - q) 0) ∧ St w0 NoM [row (.slice L1 n k1) 3 1 n (ints vs), row (.slice (some ⟨q2, 0, none⟩) n n) 3 1 n (ints (List.replicate n 0)), row (.slice (some ⟨q3, 0, none⟩) nn nn) 63 1 nn (List.replicate nn (.slice none 0 0)), row (.slice (some ⟨q4, 0, none⟩) n n) 3 1 n (ints zs), row (.slice (some ⟨q5, 0, none⟩) n n) 3 1 n (ints (List.replicate n 0)), row (.slice (some ⟨q6, 0, none⟩) nn nn) 4 1 nn (List.replicate nn (.bool false)), row (.slice (some ⟨q7, 0, none⟩) nn nn) 24 1 nn (List.replicate nn (.slice none 0 0)), blk g2 [.slice L1 n k1, .slice (some ⟨q2, 0, none⟩) n n, .slice (some ⟨q3, 0, none⟩) nn nn, .slice (some ⟨q4, 0, none⟩) n n, .slice (some ⟨q5, 0, none⟩) n n, .slice (some ⟨q6, 0, none⟩) nn nn, .slice (some ⟨q7, 0, none⟩) nn nn] 56, blk g1 sn0 56] wr) (fun s38 _ => n - (intOf s38).toNat)
        case atStart => exact ⟨0, List.replicate n 0, by omega, by simp, rfl, Lib.hid (by simp), hS.re⟩
        case round =>
          clear hS
          obtain ⟨q, zs, hq, hzl, rfl, HZ, hS⟩ := hrel
          by_cases hlt : q < n
          · have hqz : q < zs.length := by omega
            have HF := Lib.hid (fill_step hlt)
            go_wp2_with (first | (refine oL ?_; (first | refine sL1 hS rfl rfl rfl ?_ | refine sL2 hS rfl rfl rfl ?_ | refine sL3 hS rfl rfl ?_ | refine sL4 hS rfl rfl ?_ | refine sL5 hS rfl rfl ?_ | refine sL6 hS rfl rfl ?_ | refine sL7 hS rfl rfl ?_)) | (refine oS ?_; ((first | refine sS1 hS rfl rfl rfl ?_ | refine sS2 hS rfl rfl rfl ?_ | refine sS3 hS rfl rfl rfl ?_ | refine sS4 hS rfl rfl rfl ?_ | refine sS5 hS rfl rfl rfl ?_); clear hS; intro w hS)) | ((first | refine sN1 hS rfl ?_); clear hS; first | ((fail_if_success guard_hyp g1); intro g1 w hS) | ((fail_if_success guard_hyp g2); intro g2 w hS) | ((fail_if_success guard_hyp g3); intro g3 w hS) | ((fail_if_success guard_hyp g4); intro g4 w hS) | ((fail_if_success guard_hyp g5); intro g5 w hS) | ((fail_if_success guard_hyp g6); intro g6 w hS) | ((fail_if_success guard_hyp g7); intro g7 w hS) | ((fail_if_success guard_hyp g8); intro g8 w hS) | ((fail_if_success guard_hyp g9); intro g9 w hS) | fail) | fail)
            go_roundw
            case measure => simp [intOf]; omega
            exact ⟨q + 1, zs.set q (-1), by omega, by simp [hzl], by go_num, Lib.hid (by rw [HZ.out]; exact HF.out), hS.re⟩
          · have HC := Lib.hid (show zs = (newS vs).cut by have := HZ.out; rw [show q = n by omega, Nat.sub_self] at this; simp only [List.replicate_zero, List.append_nil] at this; rw [this]; simp only [newS, HN.out])
            clear HZ
            go_wp2_with (first | (refine oL ?_; (first | refine sL1 hS rfl rfl rfl ?_ | refine sL2 hS rfl rfl rfl ?_ | refine sL3 hS rfl rfl ?_ | refine sL4 hS rfl rfl ?_ | refine sL5 hS rfl rfl ?_ | refine sL6 hS rfl rfl ?_ | refine sL7 hS rfl rfl ?_)) | (refine oS ?_; ((first | refine sS1 hS rfl rfl rfl ?_ | refine sS2 hS rfl rfl rfl ?_ | refine sS3 hS rfl rfl rfl ?_ | refine sS4 hS rfl rfl rfl ?_ | refine sS5 hS rfl rfl rfl ?_); clear hS; intro w hS)) | ((first | refine sN1 hS rfl ?_); clear hS; first | ((fail_if_success guard_hyp g1); intro g1 w hS) | ((fail_if_success guard_hyp g2); intro g2 w hS) | ((fail_if_success guard_hyp g3); intro g3 w hS) | ((fail_if_success guard_hyp g4); intro g4 w hS) | ((fail_if_success guard_hyp g5); intro g5 w hS) | ((fail_if_success guard_hyp g6); intro g6 w hS) | ((fail_if_success guard_hyp g7); intro g7 w hS) | ((fail_if_success guard_hyp g8); intro g8 w hS) | ((fail_if_success guard_hyp g9); intro g9 w hS) | fail) | fail)
            refine st_retCT hS rfl rfl rfl rfl rfl ?_
            refine RetS.mk HN.out (by simp only [newS, List.length_replicate]; rw [HN.out]; exact HNN.out) ⟨L1, k1, some ⟨q2, 0, none⟩, n, some ⟨q3, 0, none⟩, nn, some ⟨q4, 0, none⟩, n, some ⟨q5, 0, none⟩, n, some ⟨q6, 0, none⟩, nn, some ⟨q7, 0, none⟩, nn⟩ ⟨hS.riNew, ?_, ?_, ?_, ?_, ?_, ?_⟩ hS.toExt
            · simp only [newS, HN.out]; exact hS.riNew
            · simp only [newS, HN.out, HNN.out]; exact ⟨_, hS.rvNew, Rw2.repCh _ _ _⟩
            · rw [← HC.out]; exact hS.riNew
            · simp only [newS, HN.out]; exact hS.riNew
            · simp only [newS, HN.out, HNN.out, bools_rep]; exact hS.rvNew
            · simp only [newS, HN.out, HNN.out]; exact ⟨_, hS.rvNew, Rw2.repRe _ _ _⟩
end Go.Proofs.Ytombhhhaidmpeaa
