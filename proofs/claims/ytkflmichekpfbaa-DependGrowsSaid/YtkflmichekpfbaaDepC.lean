/- depend: extended, Vector, Ckpt, Depends. Conditions: the pattern is good and lies in memory, the numbers are in range. -/
import Derived.Test.YtkflmichekpfbaaDepB
namespace Go.Proofs.Ytkflmichekpfbaa
open Go.RowKit
set_option linter.unusedVariables false
set_option linter.unusedSimpArgs false
set_option linter.unusedSectionVars false

section
variable {S : Nat → Prop} {A1 A2 A3 : Option Addr} {c1 c2 c3 n1 n2 n3 : Nat} {p : Pat} {q : Nat} {z k : Int} {w : World}
theorem exists_n (e1 : p.len.length = n1) (e2 : p.ck.length = n2) (e3 : p.arcs.length = n3) (hz : z = q) (hp : PatAt S w ⟨A1, c1, A2, c2, A3, c3⟩ p) (hg : Good p) (ha : CkOk p (q, k)) :
    Calls Try.prog 71 #[.agg #[.slice A1 n1 c1, .slice A2 n2 c2, .slice A3 n3 c3], .agg #[.int .i64 z, .int .i64 k]] w fun e w' => e = .returned (.bool true) ∧ Ext w w' := by
  subst e1 e2 e3 hz; exact exists_any ⟨A1, c1, A2, c2, A3, c3⟩ p q k w hp hg ha
theorem dindex_n (e1 : p.len.length = n1) (e2 : p.ck.length = n2) (e3 : p.arcs.length = n3) (hz : z = q) (hp : PatAt S w ⟨A1, c1, A2, c2, A3, c3⟩ p) (hg : Good p) (hq : q < p.len.length) (hk : 0 ≤ k) :
    Calls Try.prog 38 #[.agg #[.slice A1 n1 c1, .slice A2 n2 c2, .slice A3 n3 c3], .int .i64 z, .int .i64 k] w fun e w' => e = .returned (.int .i64 (ckIx p q k)) ∧ Ext w w' := by
  subst e1 e2 e3 hz; exact dindex_any ⟨A1, c1, A2, c2, A3, c3⟩ p q k w hp hg hq hk
theorem clone_nn {A : Option Addr} {c n : Nat} {xs : List Int} (hn : xs.length = n) (hx : RI S w A xs) (hl : n ≤ 1000000) : Calls Try.prog 73 #[.slice A n c] w (RetRow w 3 1 n (ints xs)) := by
  subst hn; exact clone_any A c xs w hx hl
theorem intervals_n (e1 : p.len.length = n1) (e2 : p.ck.length = n2) (e3 : p.arcs.length = n3) (hz : z = q) (hp : PatAt S w ⟨A1, c1, A2, c2, A3, c3⟩ p) (hg : Good p) (hpt : PtOk p (q, k)) :
    Calls Try.prog 72 #[.agg #[.slice A1 n1 c1, .slice A2 n2 c2, .slice A3 n3 c3], .int .i64 z, .int .i64 k] w fun e w' => ∃ c x0 x1 x2 x3 x4, Hid (IsClk p q k c ∧ [x0, x1, x2, x3, x4] = vec5 p c) ∧ e = .returned (.agg #[.int .i64 x0, .int .i64 x1, .int .i64 x2, .int .i64 x3, .int .i64 x4]) ∧ Ext w w' := by
  subst e1 e2 e3 hz
  refine (intervals_any ⟨A1, c1, A2, c2, A3, c3⟩ p q k w hp hg hpt).mono ?_
  rintro e w' ⟨c, h1, h2, h3⟩
  obtain ⟨x0, x1, x2, x3, x4, h5⟩ := five (zs := vec5 p c) (by simp [vec5])
  refine ⟨c, x0, x1, x2, x3, x4, Lib.hid ⟨h1, h5.symm⟩, ?_, h3⟩
  rw [h2, h5]; rfl
end
set_option maxRecDepth 100000 in
set_option maxHeartbeats 3200000 in
theorem extended_any {S : Nat → Prop} (v : PV) (p : Pat) (q : Nat) (n : Int) (w0 : World) (hp : PatAt S w0 v p) (hg : Good p) (ha : CkOk p (q, n)) :
    Calls Try.prog 79 #[v.val p, .agg #[.int .i64 (q : Int), .int .i64 n]] w0 fun e w' => ∃ c x0 x1 x2 x3 x4, Hid (IsClk p q (ckIx p q n) c ∧ [x0, x1, x2, x3, x4] = vec5 p c) ∧ e = .returned (.agg #[.int .i64 x0, .int .i64 x1, .int .i64 x2, .int .i64 x3, .int .i64 x4]) ∧ Ext w0 w' := by
  have hS := St.start w0 NoM
  have HP := Lib.hid (And.intro hp (And.intro hg (And.intro ha (ckIx_ok hg ha))))
  clear hp hg ha
  obtain ⟨A1, c1, A2, c2, A3, c3⟩ := v
  simp only [PV.val] at *
  go_enter Try.func79, Try.ntmps79
  go_wp2_with (first | ((first | (refine oB ?_; first | refine sB1 hS rfl rfl ?_ | refine sB2 hS rfl rfl ?_) | refine sN1 hS rfl ?_); clear hS; first | ((fail_if_success guard_hyp g1); intro g1 w hS) | ((fail_if_success guard_hyp g2); intro g2 w hS) | ((fail_if_success guard_hyp g3); intro g3 w hS) | ((fail_if_success guard_hyp g4); intro g4 w hS) | fail) | fail)
  refine dr_start1 [10] 0 hS (by kernel_rfl) rfl ?_; clear hS; intro w hS
  first | refine dL1 hS 0 rfl rfl rfl rfl ?_ | refine dL2 hS 0 rfl rfl rfl rfl ?_ | refine dL3 hS 0 rfl rfl rfl ?_ | refine dL4 hS 0 rfl rfl rfl ?_ | refine dL5 hS 0 rfl rfl rfl ?_ | refine dL6 hS 0 rfl rfl rfl ?_ | refine dL7 hS 0 rfl rfl rfl ?_
  (try simp only [Act.put, nA, nB, nC])
  refine dP hS 1 rfl rfl ?_
  (try simp only [Act.put, nA, nB, nC])
  first | refine dL1 hS 2 rfl rfl rfl rfl ?_ | refine dL2 hS 2 rfl rfl rfl rfl ?_ | refine dL3 hS 2 rfl rfl rfl ?_ | refine dL4 hS 2 rfl rfl rfl ?_ | refine dL5 hS 2 rfl rfl rfl ?_ | refine dL6 hS 2 rfl rfl rfl ?_ | refine dL7 hS 2 rfl rfl rfl ?_
  (try simp only [Act.put, nA, nB, nC])
  first | refine dL1 hS 3 rfl rfl rfl rfl ?_ | refine dL2 hS 3 rfl rfl rfl rfl ?_ | refine dL3 hS 3 rfl rfl rfl ?_ | refine dL4 hS 3 rfl rfl rfl ?_ | refine dL5 hS 3 rfl rfl rfl ?_ | refine dL6 hS 3 rfl rfl rfl ?_ | refine dL7 hS 3 rfl rfl rfl ?_
  (try simp only [Act.put, nA, nB, nC])
  refine dP hS 4 rfl rfl ?_
  (try simp only [Act.put, nA, nB, nC])
  first | refine dL1 hS 5 rfl rfl rfl rfl ?_ | refine dL2 hS 5 rfl rfl rfl rfl ?_ | refine dL3 hS 5 rfl rfl rfl ?_ | refine dL4 hS 5 rfl rfl rfl ?_ | refine dL5 hS 5 rfl rfl rfl ?_ | refine dL6 hS 5 rfl rfl rfl ?_ | refine dL7 hS 5 rfl rfl rfl ?_
  (try simp only [Act.put, nA, nB, nC])
  refine dP hS 6 rfl rfl ?_
  (try simp only [Act.put, nA, nB, nC])
  first | refine dL1 hS 7 rfl rfl rfl rfl ?_ | refine dL2 hS 7 rfl rfl rfl rfl ?_ | refine dL3 hS 7 rfl rfl rfl ?_ | refine dL4 hS 7 rfl rfl rfl ?_ | refine dL5 hS 7 rfl rfl rfl ?_ | refine dL6 hS 7 rfl rfl rfl ?_ | refine dL7 hS 7 rfl rfl rfl ?_
  (try simp only [Act.put, nA, nB, nC])
  refine dr_one 8 (by kernel_rfl) rfl ?_
  (refine st_call rfl (by kernel_rfl) rfl ?_; go_at_call 38; refine (dindex_n rfl rfl rfl rfl (HP.out.1.ext hS.toExt) HP.out.2.1 HP.out.2.2.1.1 HP.out.2.2.1.2.1).mono ?_; rintro e w ⟨rfl, hx1⟩; replace hS := hS.ext hx1)
  (try simp only [Act.put, nA, nB, nC])
  refine dr_end hS ?_
  refine dr_one 9 (by kernel_rfl) rfl ?_
  (refine st_call rfl (by kernel_rfl) rfl ?_; go_at_call 72; refine (intervals_n rfl rfl rfl rfl (HP.out.1.ext hS.toExt) HP.out.2.1 HP.out.2.2.2).mono ?_; rintro e w ⟨c, x0, x1, x2, x3, x4, HC, rfl, hx1⟩; replace hS := hS.ext hx1)
  (try simp only [Act.put, nA, nB, nC])
  refine dr_end hS ?_
  refine dr_one 10 (by kernel_rfl) rfl ?_
  ((first | refine sS1 hS rfl rfl rfl ?_ | refine sS2 hS rfl rfl rfl ?_ | refine sS3 hS rfl rfl rfl ?_ | refine sS4 hS rfl rfl rfl ?_ | refine sS5 hS rfl rfl rfl ?_); clear hS; intro w hS)
  (try simp only [Act.put, nA, nB, nC])
  refine dr_late (by kernel_rfl) ?_
  refine dr_done (by kernel_rfl) ?_
  go_wp2_with (first | ((first | (refine oB ?_; first | refine sB1 hS rfl rfl ?_ | refine sB2 hS rfl rfl ?_) | refine sN1 hS rfl ?_); clear hS; first | ((fail_if_success guard_hyp g1); intro g1 w hS) | ((fail_if_success guard_hyp g2); intro g2 w hS) | ((fail_if_success guard_hyp g3); intro g3 w hS) | ((fail_if_success guard_hyp g4); intro g4 w hS) | fail) | fail)
  refine st_retC hS rfl rfl rfl rfl ?_
  exact ⟨c, x0, x1, x2, x3, x4, HC, rfl, hS.toExt⟩
theorem run_sliceArr {P : Program} {t e : TypeId} {n m g : Nat} (hu : P.underlying t = some (.array n e)) (hs : (P.info? e).map (·.size) = some 1) (hm : m ≤ n) (w : World) :
    (Instr.sliceAt t (.pointer (some ⟨g, 0, none⟩)) none (some (.int .i64 (m : Int))) none).run P w = .ok (.slice (some ⟨g, 0, none⟩) m n) w := by
  have h1 : (0 : Int) ≤ (m : Int) ∧ (m : Int) ≤ (n : Int) := by omega
  simp [Instr.sliceAt, run_underlying hu, Instr.sureAddr, Instr.sliceBounds, Instr.sliceBound, asIntOf, hm, run_sizeOf hs, add_mk]
theorem sA1 {P : Program} {ops : Array Oper} {Q : Exit → Act → World → Prop} {a : Act} {w : World} {rest : List Oper} {d : Option Tmp} {tt t e : TypeId} {pos : String} {af : Array Edge} {gd : Option (Nat × Bool)} {x y : Operand} {n m g : Nat} (hu : P.underlying t = some (.array n e)) (hs : (P.info? e).map (·.size) = some 1)
    (hw : Region.wanted ⟨d, .slice t x none (some y) none, tt, pos, af, gd⟩ (yielded ops a.tmps) = true) (hx' : oval a x = some (.pointer (some ⟨g, 0, none⟩))) (hy' : oval a y = some (.int .i64 (m : Int))) (hm : m ≤ n)
    (k : wpList P ops Q rest (a.put d (.slice (some ⟨g, 0, none⟩) m n)) w) : wpList P ops Q (⟨d, .slice t x none (some y) none, tt, pos, af, gd⟩ :: rest) a w :=
  st_run hw (by simp only [execOp, (oval_eval hx'), (oval_eval hy'), Option.map_none, Option.map_some, Sem.run_bind, run_sliceArr hu hs hm, Result.andThen_ok, Sem.run_pure]) k
/-- the slice of a block's first cells -/
theorem St.blkTake {w0 w : World} {M : Nat → Prop} {cs : List (Chunk w0 M)} {f : Chunk w0 M → List (Chunk w0 M)} {g n : Nat} {zs : List Int} {vs : List Value} {t : TypeId} (h : St w0 M cs w) [hp : PickB g cs vs t f] (hv : vs = ints zs) : RI All w (some ⟨g, 0, none⟩) (zs.take n) := by
  subst hv
  exact RI.take (h.blkRV (vs := ints zs) : RI All w (some ⟨g, 0, none⟩) zs) n
set_option maxRecDepth 100000 in
set_option maxHeartbeats 3200000 in
theorem vector_any {S : Nat → Prop} (v : PV) (p : Pat) (q : Nat) (k : Int) (w0 : World) (hp : PatAt S w0 v p) (hg : Good p) (hpt : PtOk p (q, k)) :
    Calls Try.prog 34 #[v.val p, .int .i64 (q : Int), .int .i64 k] w0 fun e w' => ∃ c, IsClk p q k c ∧ RetRow w0 3 1 p.len.length (ints (vecN p c)) e w' := by
  have hS := St.start w0 NoM
  have hn5 := hg.n5
  obtain ⟨hq, hk0, hkl⟩ := hpt
  simp only at hq hk0 hkl
  have ha : CkOk p (q, 0) := ⟨hq, by simp, by simp⟩
  obtain ⟨b1, o1, hA1, _, hca⟩ := hp.len.atNS hq
  have HP := Lib.hid (And.intro hp (And.intro hg (And.intro ha (show PtOk p (q, k) from ⟨hq, hk0, hkl⟩))))
  have h64 := hg.hi q hq
  clear hp hg ha
  obtain ⟨A1, c1, A2, c2, A3, c3⟩ := v
  simp only [PV.val] at *
  subst hA1
  generalize nth p.len q = m at *
  have d1 : decide (k < 0) = false := decide_eq_false (by omega)
  have d2 : decide (m < k) = false := decide_eq_false (by omega)
  have hq' : (q : Int) < p.len.length := by omega
  go_enter Try.func34, Try.ntmps34
  go_wp2_with (first | (refine sA1 Try.underlying81 (by kernel_rfl) rfl rfl rfl hn5 ?_) | (go_at_call 71; refine (exists_n rfl rfl rfl rfl (HP.out.1.ext hS.toExt) HP.out.2.1 HP.out.2.2.1).mono ?_; rintro e w ⟨rfl, hx1⟩; replace hS := hS.ext hx1) | (go_at_call 72; refine (intervals_n rfl rfl rfl rfl (HP.out.1.ext hS.toExt) HP.out.2.1 HP.out.2.2.2).mono ?_; rintro e w ⟨c, x0, x1, x2, x3, x4, HC, rfl, hx1⟩; replace hS := hS.ext hx1) | (go_at_call 73; refine (clone_nn (xs := vecN p c) (vecN_length p c) (by have h := hS.blkTake (g := g2) (zs := [x0, x1, x2, x3, x4]) (n := p.len.length) rfl; rw [HC.out.2, vec5_take hn5] at h; exact h) (by omega)).mono ?_; rintro e w ⟨L, cl, rfl, ho, hx1⟩; replace hS := hS.addRow ho hx1) | (refine oL ?_; (first | refine sL1 hS rfl rfl rfl ?_ | refine sL2 hS rfl rfl rfl ?_ | refine sL3 hS rfl rfl ?_ | refine sL4 hS rfl rfl ?_ | refine sL5 hS rfl rfl ?_ | refine sL6 hS rfl rfl ?_ | refine sL7 hS rfl rfl ?_)) | (refine oS ?_; ((first | refine sS1 hS rfl rfl rfl ?_ | refine sS2 hS rfl rfl rfl ?_ | refine sS3 hS rfl rfl rfl ?_ | refine sS4 hS rfl rfl rfl ?_ | refine sS5 hS rfl rfl rfl ?_); clear hS; intro w hS)) | ((first | (refine oB ?_; first | refine sB1 hS rfl rfl ?_ | refine sB2 hS rfl rfl ?_) | refine sN1 hS rfl ?_); clear hS; first | ((fail_if_success guard_hyp g1); intro g1 w hS) | ((fail_if_success guard_hyp g2); intro g2 w hS) | ((fail_if_success guard_hyp g3); intro g3 w hS) | fail) | fail)
  go_ret
  exact ⟨c, HC.out.1, hS.ret rfl⟩
end Go.Proofs.Ytkflmichekpfbaa
