/- causal.Order: the events that come next, the first of them that can come. Conditions: as said at each. -/
import Derived.Test.YtkflmichekpfbaaOrdR
import Derived.Test.YtkflmichekpfbaaOrders
namespace Go.Proofs.Ytkflmichekpfbaa
open Go.RowKit
set_option linter.unusedVariables false
set_option linter.unusedSimpArgs false
set_option linter.unusedSectionVars false

theorem MapAt.ext {w w' : World} {g : Nat} {m : Int × Int → Option Value} (h : MapAt w g m) (hb : w'.heap[g]? = w.heap[g]?) : MapAt w' g m := by
  obtain ⟨es, c, L, h1, h2, h3⟩ := h
  exact ⟨es, c, L, hb.trans h1, h2, h3⟩
theorem MapAt.lt {w : World} {g : Nat} {m : Int × Int → Option Value} (h : MapAt w g m) : g < w.heap.size := by
  obtain ⟨es, c, L, h1, _⟩ := h
  exact lt_of_block h1
section
variable {ops : Array Oper} {Q : Exit → Act → World → Prop} {a : Act} {w w0 : World} {M : Nat → Prop} {cs fx : List (Chunk w0 M)} {d : Option Tmp} {tt t e : TypeId} {pos : String} {af : Array Edge} {gd : Option (Nat × Bool)} {x y : Operand} {md : Region.Mode} {fuel : Nat} {listed : Array Bool} {late : List Nat} {g : Nat} {i j : Int} {m : Int × Int → Option Value} {v zv : Value}
theorem SF.oldMap (h : SF w0 M fx w) (hm : MapAt w0 g m) (hg : ¬ M g) : MapAt w g m := let ⟨_, h1, _⟩ := h; hm.ext (h1.keep.block g hm.lt hg)
/-- look-up in an old map -/
theorem dK4 [hs : SubC fx cs] (hS : St w0 M cs w) (n : Nat) [hT : MapT Try.prog t e zv] (hi : ops[n]? = some ⟨d, .lookup t x y true, tt, pos, af, gd⟩) (hw : Region.wanted ⟨d, .lookup t x y true, tt, pos, af, gd⟩ (yielded ops a.tmps) = true) (hx' : oval a x = some (.map (some g))) (hy' : oval a y = some (.agg #[.int .i64 i, .int .i64 j])) (hM : MapAt w0 g m) (hg : ¬ M g) (hm : m (i, j) = some v)
    (h : wpAnyL Try.prog md ops Q (SF w0 M fx) late fuel (listed.setIfInBounds n true) (a.put d (.tuple #[v, .bool true])) w) (hn : Region.noSelect ops = true := by kernel_rfl) (hf : (Region.free md ops listed n && lateOk md ops late n) = true := by kernel_rfl) (hr : (Region.ready md ops listed).contains n = true := by kernel_rfl) (hQ : ∀ c a v w, Q (.panic c) (a.put d v) w → Q (.panic c) a w := by exact fun _ _ _ _ h => h) :
    wpAnyL Try.prog md ops Q (SF w0 M fx) late (fuel + 1) listed a w :=
  dr_take hS n hi hn hf hr (fun c a w => hQ c a _ w) hw (fun w hw' => look_some hx' hy' hm (hw'.oldMap hM hg)) h
theorem dK5 [hs : SubC fx cs] (hS : St w0 M cs w) (n : Nat) [hT : MapT Try.prog t e zv] (hi : ops[n]? = some ⟨d, .lookup t x y true, tt, pos, af, gd⟩) (hw : Region.wanted ⟨d, .lookup t x y true, tt, pos, af, gd⟩ (yielded ops a.tmps) = true) (hx' : oval a x = some (.map (some g))) (hy' : oval a y = some (.agg #[.int .i64 i, .int .i64 j])) (hM : MapAt w0 g m) (hg : ¬ M g) (hm : m (i, j) = none)
    (h : wpAnyL Try.prog md ops Q (SF w0 M fx) late fuel (listed.setIfInBounds n true) (a.put d (.tuple #[zv, .bool false])) w) (hn : Region.noSelect ops = true := by kernel_rfl) (hf : (Region.free md ops listed n && lateOk md ops late n) = true := by kernel_rfl) (hr : (Region.ready md ops listed).contains n = true := by kernel_rfl) (hQ : ∀ c a v w, Q (.panic c) (a.put d v) w → Q (.panic c) a w := by exact fun _ _ _ _ h => h) :
    wpAnyL Try.prog md ops Q (SF w0 M fx) late (fuel + 1) listed a w :=
  dr_take hS n hi hn hf hr (fun c a w => hQ c a _ w) hw (fun w hw' => look_none hx' hy' hm (hw'.oldMap hM hg)) h
end
/-- what the function inside Order asks of a point -/
def askB (p : Pat) (x : List Int) (a : Nat × Int) : Bool := decide (0 < a.2) && srcIn p x a
set_option maxRecDepth 100000 in
set_option maxHeartbeats 3200000 in
theorem order1_any {S : Nat → Prop} (p : Pat) (x : List Int) (q : Nat) (k : Int) (gv ga gh gs : Nat) (X : Option Addr) (cx : Nat) (w0 : World) (hg : Good p) (hxl : x.length = p.len.length) (h1 : w0.cell? ⟨gv, 0, none⟩ = some (.pointer (some ⟨gh, 0, none⟩))) (h2 : w0.cell? ⟨gh, 1, none⟩ = some (.map (some gs))) (h3 : MapAt w0 gs (srcM p.arcs)) (h4 : w0.cell? ⟨ga, 0, none⟩ = some (.slice X p.len.length cx)) (h5 : RI S w0 X x) :
    Calls Try.prog 76 #[.agg #[.int .i64 (q : Int), .int .i64 k], .pointer (some ⟨gv, 0, none⟩), .pointer (some ⟨ga, 0, none⟩)] w0 fun e w' => e = .returned (.bool (askB p x (q, k))) ∧ Ext w0 w' := by
  have hS := St.start w0 NoM
  have hn5 := hg.n5
  cases hs : srcF p.arcs (key (q, k)) with
  | none =>
    have hsm : srcM p.arcs ((q : Int), k) = none := by
      have : srcF p.arcs ((q : Int), k) = none := hs
      simp [srcM, this]
    have hask : askB p x (q, k) = decide (0 < k) := by simp [askB, srcIn, hs]
    rw [hask]
    clear hs hask
    by_cases hk : 0 < k
    · have d1 : decide (0 < k) = true := decide_eq_true hk
      rw [d1]
      go_enter Try.func76, Try.ntmps76
      go_wp2_with (first | ((first | (refine oB ?_; first | refine sB1 hS rfl rfl ?_ | refine sB2 hS rfl rfl ?_)); clear hS; first | ((fail_if_success guard_hyp g1); intro g1 w hS) | ((fail_if_success guard_hyp g2); intro g2 w hS) | ((fail_if_success guard_hyp g3); intro g3 w hS) | fail) | fail)
      refine dr_start0 []  hS (by kernel_rfl) rfl ?_; clear hS; intro w hS
      first | refine dL1 hS 0 rfl rfl rfl rfl ?_ | refine dL2 hS 0 rfl rfl rfl rfl ?_ | refine dL3 hS 0 rfl rfl rfl ?_ | refine dL4 hS 0 rfl rfl rfl ?_ | refine dL5 hS 0 rfl rfl rfl ?_ | refine dL6 hS 0 rfl rfl rfl ?_ | refine dL7 hS 0 rfl rfl rfl ?_
      (try simp only [Act.put, nA, nB, nC])
      refine dP hS 1 rfl rfl ?_
      (try simp only [Act.put, nA, nB, nC])
      refine dP hS 2 rfl rfl ?_
      (try simp only [Act.put, nA, nB, nC])
      first | refine dL1 hS 3 rfl rfl rfl rfl ?_ | refine dL2 hS 3 rfl rfl rfl rfl ?_ | refine dL3 hS 3 rfl rfl rfl ?_ | refine dL4 hS 3 rfl rfl rfl ?_ | refine dL5 hS 3 rfl rfl rfl ?_ | refine dL6 hS 3 rfl rfl rfl ?_ | refine dL7 hS 3 rfl rfl rfl ?_
      (try simp only [Act.put, nA, nB, nC])
      first | refine dL1 hS 4 rfl rfl rfl rfl ?_ | refine dL2 hS 4 rfl rfl rfl rfl ?_ | refine dL3 hS 4 rfl rfl rfl ?_ | refine dL4 hS 4 rfl rfl rfl ?_ | refine dL5 hS 4 rfl rfl rfl ?_ | refine dL6 hS 4 rfl rfl rfl ?_ | refine dL7 hS 4 rfl rfl rfl ?_
      (try simp only [Act.put, nA, nB, nC])
      first | refine dK5 hS 5 rfl rfl rfl rfl h3 id hsm ?_ | refine dK1 hS 5 rfl rfl rfl rfl ?_ | refine dK2 hS 5 rfl rfl rfl rfl ?_ | refine dK3 hS 5 rfl rfl rfl rfl ?_
      (try simp only [Act.put, nA, nB, nC])
      refine dM hS 6 rfl rfl rfl ?_
      (try simp only [Act.put, nA, nB, nC])
      refine dP hS 7 rfl rfl ?_
      (try simp only [Act.put, nA, nB, nC])
      refine dP hS 8 rfl rfl ?_
      (try simp only [Act.put, nA, nB, nC])
      refine dr_one 9 (by kernel_rfl) rfl ?_
      (refine sN1 hS rfl ?_; clear hS; first | ((fail_if_success guard_hyp g1); intro g1 w hS) | ((fail_if_success guard_hyp g2); intro g2 w hS) | ((fail_if_success guard_hyp g3); intro g3 w hS) | fail)
      (try simp only [Act.put, nA, nB, nC])
      refine dr_end hS ?_
      refine dr_one 10 (by kernel_rfl) rfl ?_
      ((first | refine sS1 hS rfl rfl rfl ?_ | refine sS2 hS rfl rfl rfl ?_ | refine sS3 hS rfl rfl rfl ?_ | refine sS4 hS rfl rfl rfl ?_ | refine sS5 hS rfl rfl rfl ?_); clear hS; intro w hS)
      (try simp only [Act.put, nA, nB, nC])
      refine dr_end hS ?_
      refine dA hS 11 rfl rfl rfl ?_
      (try simp only [Act.put, nA, nB, nC])
      refine dr_done (by kernel_rfl) ?_
      go_wp2_with (first | ((first | (refine oB ?_; first | refine sB1 hS rfl rfl ?_ | refine sB2 hS rfl rfl ?_)); clear hS; first | ((fail_if_success guard_hyp g1); intro g1 w hS) | ((fail_if_success guard_hyp g2); intro g2 w hS) | ((fail_if_success guard_hyp g3); intro g3 w hS) | fail) | fail)
      refine dr_start0 []  hS (by kernel_rfl) rfl ?_; clear hS; intro w hS
      refine dP hS 0 rfl rfl ?_
      (try simp only [Act.put, nA, nB, nC])
      first | refine dL1 hS 1 rfl rfl rfl rfl ?_ | refine dL2 hS 1 rfl rfl rfl rfl ?_ | refine dL3 hS 1 rfl rfl rfl ?_ | refine dL4 hS 1 rfl rfl rfl ?_ | refine dL5 hS 1 rfl rfl rfl ?_ | refine dL6 hS 1 rfl rfl rfl ?_ | refine dL7 hS 1 rfl rfl rfl ?_
      (try simp only [Act.put, nA, nB, nC])
      refine dP hS 2 rfl rfl ?_
      (try simp only [Act.put, nA, nB, nC])
      refine dM hS 3 rfl rfl rfl ?_
      (try simp only [Act.put, nA, nB, nC])
      first | refine dM hS 4 rfl rfl rfl ?_ | refine dQ hS 4 rfl rfl ?_
      (try simp only [Act.put, nA, nB, nC])
      first | refine dP hS 5 rfl rfl ?_ | refine dQ hS 5 rfl rfl ?_
      (try simp only [Act.put, nA, nB, nC])
      first | refine dM hS 6 rfl rfl rfl ?_ | refine dQ hS 6 rfl rfl ?_
      (try simp only [Act.put, nA, nB, nC])
      first | refine dP hS 7 rfl rfl ?_ | refine dQ hS 7 rfl rfl ?_
      (try simp only [Act.put, nA, nB, nC])
      first | refine dL1 hS 8 rfl rfl rfl rfl ?_ | refine dL2 hS 8 rfl rfl rfl rfl ?_ | refine dL3 hS 8 rfl rfl rfl ?_ | refine dL4 hS 8 rfl rfl rfl ?_ | refine dL5 hS 8 rfl rfl rfl ?_ | refine dL6 hS 8 rfl rfl rfl ?_ | refine dL7 hS 8 rfl rfl rfl ?_ | refine dQ hS 8 rfl rfl ?_
      (try simp only [Act.put, nA, nB, nC])
      first | refine dL1 hS 9 rfl rfl rfl rfl ?_ | refine dL2 hS 9 rfl rfl rfl rfl ?_ | refine dL3 hS 9 rfl rfl rfl ?_ | refine dL4 hS 9 rfl rfl rfl ?_ | refine dL5 hS 9 rfl rfl rfl ?_ | refine dL6 hS 9 rfl rfl rfl ?_ | refine dL7 hS 9 rfl rfl rfl ?_ | refine dQ hS 9 rfl rfl ?_
      (try simp only [Act.put, nA, nB, nC])
      first | refine dP hS 10 rfl rfl ?_ | refine dQ hS 10 rfl rfl ?_
      (try simp only [Act.put, nA, nB, nC])
      first | refine dL1 hS 11 rfl rfl rfl rfl ?_ | refine dL2 hS 11 rfl rfl rfl rfl ?_ | refine dL3 hS 11 rfl rfl rfl ?_ | refine dL4 hS 11 rfl rfl rfl ?_ | refine dL5 hS 11 rfl rfl rfl ?_ | refine dL6 hS 11 rfl rfl rfl ?_ | refine dL7 hS 11 rfl rfl rfl ?_ | refine dQ hS 11 rfl rfl ?_
      (try simp only [Act.put, nA, nB, nC])
      first | refine dP hS 12 rfl rfl ?_ | refine dQ hS 12 rfl rfl ?_
      (try simp only [Act.put, nA, nB, nC])
      first | refine dL1 hS 13 rfl rfl rfl rfl ?_ | refine dL2 hS 13 rfl rfl rfl rfl ?_ | refine dL3 hS 13 rfl rfl rfl ?_ | refine dL4 hS 13 rfl rfl rfl ?_ | refine dL5 hS 13 rfl rfl rfl ?_ | refine dL6 hS 13 rfl rfl rfl ?_ | refine dL7 hS 13 rfl rfl rfl ?_ | refine dQ hS 13 rfl rfl ?_
      (try simp only [Act.put, nA, nB, nC])
      first | refine dP hS 14 rfl rfl ?_ | refine dQ hS 14 rfl rfl ?_
      (try simp only [Act.put, nA, nB, nC])
      first | refine dP hS 15 rfl rfl ?_ | refine dQ hS 15 rfl rfl ?_
      (try simp only [Act.put, nA, nB, nC])
      refine dP hS 16 rfl rfl ?_
      (try simp only [Act.put, nA, nB, nC])
      refine dA hS 17 rfl rfl rfl ?_
      (try simp only [Act.put, nA, nB, nC])
      refine dr_done (by kernel_rfl) ?_
      go_wp2_with (first | ((first | (refine oB ?_; first | refine sB1 hS rfl rfl ?_ | refine sB2 hS rfl rfl ?_)); clear hS; first | ((fail_if_success guard_hyp g1); intro g1 w hS) | ((fail_if_success guard_hyp g2); intro g2 w hS) | ((fail_if_success guard_hyp g3); intro g3 w hS) | fail) | fail)
      go_ret
      exact ⟨rfl, hS.toExt⟩
    · have d1 : decide (0 < k) = false := decide_eq_false hk
      rw [d1]
      go_enter Try.func76, Try.ntmps76
      go_wp2_with (first | ((first | (refine oB ?_; first | refine sB1 hS rfl rfl ?_ | refine sB2 hS rfl rfl ?_)); clear hS; first | ((fail_if_success guard_hyp g1); intro g1 w hS) | ((fail_if_success guard_hyp g2); intro g2 w hS) | ((fail_if_success guard_hyp g3); intro g3 w hS) | fail) | fail)
      refine dr_start0 []  hS (by kernel_rfl) rfl ?_; clear hS; intro w hS
      first | refine dL1 hS 0 rfl rfl rfl rfl ?_ | refine dL2 hS 0 rfl rfl rfl rfl ?_ | refine dL3 hS 0 rfl rfl rfl ?_ | refine dL4 hS 0 rfl rfl rfl ?_ | refine dL5 hS 0 rfl rfl rfl ?_ | refine dL6 hS 0 rfl rfl rfl ?_ | refine dL7 hS 0 rfl rfl rfl ?_
      (try simp only [Act.put, nA, nB, nC])
      refine dP hS 1 rfl rfl ?_
      (try simp only [Act.put, nA, nB, nC])
      refine dP hS 2 rfl rfl ?_
      (try simp only [Act.put, nA, nB, nC])
      first | refine dL1 hS 3 rfl rfl rfl rfl ?_ | refine dL2 hS 3 rfl rfl rfl rfl ?_ | refine dL3 hS 3 rfl rfl rfl ?_ | refine dL4 hS 3 rfl rfl rfl ?_ | refine dL5 hS 3 rfl rfl rfl ?_ | refine dL6 hS 3 rfl rfl rfl ?_ | refine dL7 hS 3 rfl rfl rfl ?_
      (try simp only [Act.put, nA, nB, nC])
      first | refine dL1 hS 4 rfl rfl rfl rfl ?_ | refine dL2 hS 4 rfl rfl rfl rfl ?_ | refine dL3 hS 4 rfl rfl rfl ?_ | refine dL4 hS 4 rfl rfl rfl ?_ | refine dL5 hS 4 rfl rfl rfl ?_ | refine dL6 hS 4 rfl rfl rfl ?_ | refine dL7 hS 4 rfl rfl rfl ?_
      (try simp only [Act.put, nA, nB, nC])
      first | refine dK5 hS 5 rfl rfl rfl rfl h3 id hsm ?_ | refine dK1 hS 5 rfl rfl rfl rfl ?_ | refine dK2 hS 5 rfl rfl rfl rfl ?_ | refine dK3 hS 5 rfl rfl rfl rfl ?_
      (try simp only [Act.put, nA, nB, nC])
      refine dM hS 6 rfl rfl rfl ?_
      (try simp only [Act.put, nA, nB, nC])
      refine dP hS 7 rfl rfl ?_
      (try simp only [Act.put, nA, nB, nC])
      refine dP hS 8 rfl rfl ?_
      (try simp only [Act.put, nA, nB, nC])
      refine dr_one 9 (by kernel_rfl) rfl ?_
      (refine sN1 hS rfl ?_; clear hS; first | ((fail_if_success guard_hyp g1); intro g1 w hS) | ((fail_if_success guard_hyp g2); intro g2 w hS) | ((fail_if_success guard_hyp g3); intro g3 w hS) | fail)
      (try simp only [Act.put, nA, nB, nC])
      refine dr_end hS ?_
      refine dr_one 10 (by kernel_rfl) rfl ?_
      ((first | refine sS1 hS rfl rfl rfl ?_ | refine sS2 hS rfl rfl rfl ?_ | refine sS3 hS rfl rfl rfl ?_ | refine sS4 hS rfl rfl rfl ?_ | refine sS5 hS rfl rfl rfl ?_); clear hS; intro w hS)
      (try simp only [Act.put, nA, nB, nC])
      refine dr_end hS ?_
      refine dA hS 11 rfl rfl rfl ?_
      (try simp only [Act.put, nA, nB, nC])
      refine dr_done (by kernel_rfl) ?_
      go_wp2_with (first | ((first | (refine oB ?_; first | refine sB1 hS rfl rfl ?_ | refine sB2 hS rfl rfl ?_)); clear hS; first | ((fail_if_success guard_hyp g1); intro g1 w hS) | ((fail_if_success guard_hyp g2); intro g2 w hS) | ((fail_if_success guard_hyp g3); intro g3 w hS) | fail) | fail)
      refine dr_start0 []  hS (by kernel_rfl) rfl ?_; clear hS; intro w hS
      refine dP hS 0 rfl rfl ?_
      (try simp only [Act.put, nA, nB, nC])
      first | refine dL1 hS 1 rfl rfl rfl rfl ?_ | refine dL2 hS 1 rfl rfl rfl rfl ?_ | refine dL3 hS 1 rfl rfl rfl ?_ | refine dL4 hS 1 rfl rfl rfl ?_ | refine dL5 hS 1 rfl rfl rfl ?_ | refine dL6 hS 1 rfl rfl rfl ?_ | refine dL7 hS 1 rfl rfl rfl ?_
      (try simp only [Act.put, nA, nB, nC])
      refine dP hS 2 rfl rfl ?_
      (try simp only [Act.put, nA, nB, nC])
      refine dM hS 3 rfl rfl rfl ?_
      (try simp only [Act.put, nA, nB, nC])
      first | refine dM hS 4 rfl rfl rfl ?_ | refine dQ hS 4 rfl rfl ?_
      (try simp only [Act.put, nA, nB, nC])
      first | refine dP hS 5 rfl rfl ?_ | refine dQ hS 5 rfl rfl ?_
      (try simp only [Act.put, nA, nB, nC])
      first | refine dM hS 6 rfl rfl rfl ?_ | refine dQ hS 6 rfl rfl ?_
      (try simp only [Act.put, nA, nB, nC])
      first | refine dP hS 7 rfl rfl ?_ | refine dQ hS 7 rfl rfl ?_
      (try simp only [Act.put, nA, nB, nC])
      first | refine dL1 hS 8 rfl rfl rfl rfl ?_ | refine dL2 hS 8 rfl rfl rfl rfl ?_ | refine dL3 hS 8 rfl rfl rfl ?_ | refine dL4 hS 8 rfl rfl rfl ?_ | refine dL5 hS 8 rfl rfl rfl ?_ | refine dL6 hS 8 rfl rfl rfl ?_ | refine dL7 hS 8 rfl rfl rfl ?_ | refine dQ hS 8 rfl rfl ?_
      (try simp only [Act.put, nA, nB, nC])
      first | refine dL1 hS 9 rfl rfl rfl rfl ?_ | refine dL2 hS 9 rfl rfl rfl rfl ?_ | refine dL3 hS 9 rfl rfl rfl ?_ | refine dL4 hS 9 rfl rfl rfl ?_ | refine dL5 hS 9 rfl rfl rfl ?_ | refine dL6 hS 9 rfl rfl rfl ?_ | refine dL7 hS 9 rfl rfl rfl ?_ | refine dQ hS 9 rfl rfl ?_
      (try simp only [Act.put, nA, nB, nC])
      first | refine dP hS 10 rfl rfl ?_ | refine dQ hS 10 rfl rfl ?_
      (try simp only [Act.put, nA, nB, nC])
      first | refine dL1 hS 11 rfl rfl rfl rfl ?_ | refine dL2 hS 11 rfl rfl rfl rfl ?_ | refine dL3 hS 11 rfl rfl rfl ?_ | refine dL4 hS 11 rfl rfl rfl ?_ | refine dL5 hS 11 rfl rfl rfl ?_ | refine dL6 hS 11 rfl rfl rfl ?_ | refine dL7 hS 11 rfl rfl rfl ?_ | refine dQ hS 11 rfl rfl ?_
      (try simp only [Act.put, nA, nB, nC])
      first | refine dP hS 12 rfl rfl ?_ | refine dQ hS 12 rfl rfl ?_
      (try simp only [Act.put, nA, nB, nC])
      first | refine dL1 hS 13 rfl rfl rfl rfl ?_ | refine dL2 hS 13 rfl rfl rfl rfl ?_ | refine dL3 hS 13 rfl rfl rfl ?_ | refine dL4 hS 13 rfl rfl rfl ?_ | refine dL5 hS 13 rfl rfl rfl ?_ | refine dL6 hS 13 rfl rfl rfl ?_ | refine dL7 hS 13 rfl rfl rfl ?_ | refine dQ hS 13 rfl rfl ?_
      (try simp only [Act.put, nA, nB, nC])
      first | refine dP hS 14 rfl rfl ?_ | refine dQ hS 14 rfl rfl ?_
      (try simp only [Act.put, nA, nB, nC])
      first | refine dP hS 15 rfl rfl ?_ | refine dQ hS 15 rfl rfl ?_
      (try simp only [Act.put, nA, nB, nC])
      refine dP hS 16 rfl rfl ?_
      (try simp only [Act.put, nA, nB, nC])
      refine dA hS 17 rfl rfl rfl ?_
      (try simp only [Act.put, nA, nB, nC])
      refine dr_done (by kernel_rfl) ?_
      go_wp2_with (first | ((first | (refine oB ?_; first | refine sB1 hS rfl rfl ?_ | refine sB2 hS rfl rfl ?_)); clear hS; first | ((fail_if_success guard_hyp g1); intro g1 w hS) | ((fail_if_success guard_hyp g2); intro g2 w hS) | ((fail_if_success guard_hyp g3); intro g3 w hS) | fail) | fail)
      go_ret
      exact ⟨rfl, hS.toExt⟩
  | some s =>
    obtain ⟨ar, har, hto, hat, hk0, rfl⟩ := src_arc hs
    have hoa := hg.arc ar har
    have hsm : srcM p.arcs ((q : Int), k) = some (.agg #[.int .i64 (ar.fr : Int), .int .i64 ar.ix]) := by
      have : srcF p.arcs ((q : Int), k) = some (ar.fr, ar.ix) := hs
      simp [srcM, this]
    have hk : 0 < k := by have := hoa.at0; simp only at hat hk0; omega
    have d1 : decide (0 < k) = true := decide_eq_true hk
    obtain ⟨b5, o5, rfl, _, hc5⟩ := h5.atNS (k := ar.fr) (by rw [hxl]; exact hoa.fr)
    have hask : askB p x (q, k) = decide (ar.ix ≤ nth x ar.fr) := by simp [askB, srcIn, hs, hk]
    rw [hask]
    have hfr' : (ar.fr : Int) < p.len.length := by have := hoa.fr; omega
    clear hs hask hto hat
    generalize nth x ar.fr = xf at *
    go_enter Try.func76, Try.ntmps76
    go_wp2_with (first | ((first | (refine oB ?_; first | refine sB1 hS rfl rfl ?_ | refine sB2 hS rfl rfl ?_)); clear hS; first | ((fail_if_success guard_hyp g1); intro g1 w hS) | ((fail_if_success guard_hyp g2); intro g2 w hS) | ((fail_if_success guard_hyp g3); intro g3 w hS) | fail) | fail)
    refine dr_start0 []  hS (by kernel_rfl) rfl ?_; clear hS; intro w hS
    first | refine dL1 hS 0 rfl rfl rfl rfl ?_ | refine dL2 hS 0 rfl rfl rfl rfl ?_ | refine dL3 hS 0 rfl rfl rfl ?_ | refine dL4 hS 0 rfl rfl rfl ?_ | refine dL5 hS 0 rfl rfl rfl ?_ | refine dL6 hS 0 rfl rfl rfl ?_ | refine dL7 hS 0 rfl rfl rfl ?_
    (try simp only [Act.put, nA, nB, nC])
    refine dP hS 1 rfl rfl ?_
    (try simp only [Act.put, nA, nB, nC])
    refine dP hS 2 rfl rfl ?_
    (try simp only [Act.put, nA, nB, nC])
    first | refine dL1 hS 3 rfl rfl rfl rfl ?_ | refine dL2 hS 3 rfl rfl rfl rfl ?_ | refine dL3 hS 3 rfl rfl rfl ?_ | refine dL4 hS 3 rfl rfl rfl ?_ | refine dL5 hS 3 rfl rfl rfl ?_ | refine dL6 hS 3 rfl rfl rfl ?_ | refine dL7 hS 3 rfl rfl rfl ?_
    (try simp only [Act.put, nA, nB, nC])
    first | refine dL1 hS 4 rfl rfl rfl rfl ?_ | refine dL2 hS 4 rfl rfl rfl rfl ?_ | refine dL3 hS 4 rfl rfl rfl ?_ | refine dL4 hS 4 rfl rfl rfl ?_ | refine dL5 hS 4 rfl rfl rfl ?_ | refine dL6 hS 4 rfl rfl rfl ?_ | refine dL7 hS 4 rfl rfl rfl ?_
    (try simp only [Act.put, nA, nB, nC])
    first | refine dK4 hS 5 rfl rfl rfl rfl h3 id hsm ?_ | refine dK1 hS 5 rfl rfl rfl rfl ?_ | refine dK2 hS 5 rfl rfl rfl rfl ?_ | refine dK3 hS 5 rfl rfl rfl rfl ?_
    (try simp only [Act.put, nA, nB, nC])
    refine dM hS 6 rfl rfl rfl ?_
    (try simp only [Act.put, nA, nB, nC])
    refine dP hS 7 rfl rfl ?_
    (try simp only [Act.put, nA, nB, nC])
    refine dP hS 8 rfl rfl ?_
    (try simp only [Act.put, nA, nB, nC])
    refine dr_one 9 (by kernel_rfl) rfl ?_
    (refine sN1 hS rfl ?_; clear hS; first | ((fail_if_success guard_hyp g1); intro g1 w hS) | ((fail_if_success guard_hyp g2); intro g2 w hS) | ((fail_if_success guard_hyp g3); intro g3 w hS) | fail)
    (try simp only [Act.put, nA, nB, nC])
    refine dr_end hS ?_
    refine dr_one 10 (by kernel_rfl) rfl ?_
    ((first | refine sS1 hS rfl rfl rfl ?_ | refine sS2 hS rfl rfl rfl ?_ | refine sS3 hS rfl rfl rfl ?_ | refine sS4 hS rfl rfl rfl ?_ | refine sS5 hS rfl rfl rfl ?_); clear hS; intro w hS)
    (try simp only [Act.put, nA, nB, nC])
    refine dr_end hS ?_
    refine dA hS 11 rfl rfl rfl ?_
    (try simp only [Act.put, nA, nB, nC])
    refine dr_done (by kernel_rfl) ?_
    go_wp2_with (first | ((first | (refine oB ?_; first | refine sB1 hS rfl rfl ?_ | refine sB2 hS rfl rfl ?_)); clear hS; first | ((fail_if_success guard_hyp g1); intro g1 w hS) | ((fail_if_success guard_hyp g2); intro g2 w hS) | ((fail_if_success guard_hyp g3); intro g3 w hS) | fail) | fail)
    refine dr_start0 []  hS (by kernel_rfl) rfl ?_; clear hS; intro w hS
    refine dP hS 0 rfl rfl ?_
    (try simp only [Act.put, nA, nB, nC])
    first | refine dL1 hS 1 rfl rfl rfl rfl ?_ | refine dL2 hS 1 rfl rfl rfl rfl ?_ | refine dL3 hS 1 rfl rfl rfl ?_ | refine dL4 hS 1 rfl rfl rfl ?_ | refine dL5 hS 1 rfl rfl rfl ?_ | refine dL6 hS 1 rfl rfl rfl ?_ | refine dL7 hS 1 rfl rfl rfl ?_
    (try simp only [Act.put, nA, nB, nC])
    refine dP hS 2 rfl rfl ?_
    (try simp only [Act.put, nA, nB, nC])
    refine dM hS 3 rfl rfl rfl ?_
    (try simp only [Act.put, nA, nB, nC])
    first | refine dM hS 4 rfl rfl rfl ?_ | refine dQ hS 4 rfl rfl ?_
    (try simp only [Act.put, nA, nB, nC])
    first | refine dP hS 5 rfl rfl ?_ | refine dQ hS 5 rfl rfl ?_
    (try simp only [Act.put, nA, nB, nC])
    first | refine dM hS 6 rfl rfl rfl ?_ | refine dQ hS 6 rfl rfl ?_
    (try simp only [Act.put, nA, nB, nC])
    first | refine dP hS 7 rfl rfl ?_ | refine dQ hS 7 rfl rfl ?_
    (try simp only [Act.put, nA, nB, nC])
    first | refine dL1 hS 8 rfl rfl rfl rfl ?_ | refine dL2 hS 8 rfl rfl rfl rfl ?_ | refine dL3 hS 8 rfl rfl rfl ?_ | refine dL4 hS 8 rfl rfl rfl ?_ | refine dL5 hS 8 rfl rfl rfl ?_ | refine dL6 hS 8 rfl rfl rfl ?_ | refine dL7 hS 8 rfl rfl rfl ?_ | refine dQ hS 8 rfl rfl ?_
    (try simp only [Act.put, nA, nB, nC])
    first | refine dL1 hS 9 rfl rfl rfl rfl ?_ | refine dL2 hS 9 rfl rfl rfl rfl ?_ | refine dL3 hS 9 rfl rfl rfl ?_ | refine dL4 hS 9 rfl rfl rfl ?_ | refine dL5 hS 9 rfl rfl rfl ?_ | refine dL6 hS 9 rfl rfl rfl ?_ | refine dL7 hS 9 rfl rfl rfl ?_ | refine dQ hS 9 rfl rfl ?_
    (try simp only [Act.put, nA, nB, nC])
    first | refine dP hS 10 rfl rfl ?_ | refine dQ hS 10 rfl rfl ?_
    (try simp only [Act.put, nA, nB, nC])
    first | refine dL1 hS 11 rfl rfl rfl rfl ?_ | refine dL2 hS 11 rfl rfl rfl rfl ?_ | refine dL3 hS 11 rfl rfl rfl ?_ | refine dL4 hS 11 rfl rfl rfl ?_ | refine dL5 hS 11 rfl rfl rfl ?_ | refine dL6 hS 11 rfl rfl rfl ?_ | refine dL7 hS 11 rfl rfl rfl ?_ | refine dQ hS 11 rfl rfl ?_
    (try simp only [Act.put, nA, nB, nC])
    first | refine dP hS 12 rfl rfl ?_ | refine dQ hS 12 rfl rfl ?_
    (try simp only [Act.put, nA, nB, nC])
    first | refine dL1 hS 13 rfl rfl rfl rfl ?_ | refine dL2 hS 13 rfl rfl rfl rfl ?_ | refine dL3 hS 13 rfl rfl rfl ?_ | refine dL4 hS 13 rfl rfl rfl ?_ | refine dL5 hS 13 rfl rfl rfl ?_ | refine dL6 hS 13 rfl rfl rfl ?_ | refine dL7 hS 13 rfl rfl rfl ?_ | refine dQ hS 13 rfl rfl ?_
    (try simp only [Act.put, nA, nB, nC])
    first | refine dP hS 14 rfl rfl ?_ | refine dQ hS 14 rfl rfl ?_
    (try simp only [Act.put, nA, nB, nC])
    first | refine dP hS 15 rfl rfl ?_ | refine dQ hS 15 rfl rfl ?_
    (try simp only [Act.put, nA, nB, nC])
    refine dP hS 16 rfl rfl ?_
    (try simp only [Act.put, nA, nB, nC])
    refine dA hS 17 rfl rfl rfl ?_
    (try simp only [Act.put, nA, nB, nC])
    refine dr_done (by kernel_rfl) ?_
    go_wp2_with (first | ((first | (refine oB ?_; first | refine sB1 hS rfl rfl ?_ | refine sB2 hS rfl rfl ?_)); clear hS; first | ((fail_if_success guard_hyp g1); intro g1 w hS) | ((fail_if_success guard_hyp g2); intro g2 w hS) | ((fail_if_success guard_hyp g3); intro g3 w hS) | fail) | fail)
    go_ret
    exact ⟨rfl, hS.toExt⟩
end Go.Proofs.Ytkflmichekpfbaa
