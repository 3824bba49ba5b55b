/- causal.Before: maps of points seen, stacks of points, the function inside. Conditions: as said at each. -/
import Derived.Test.YtkflmichekpfbaaGf
import Derived.Test.YtkflmichekpfbaaHbPure
import Derived.Test.YtkflmichekpfbaaGc
import Derived.Laws.EntriesVeiled
namespace Go.Proofs.Ytkflmichekpfbaa
open Go.RowKit
set_option linter.unusedVariables false
set_option linter.unusedSimpArgs false
set_option linter.unusedSectionVars false

/-- the map of what is seen -/
def seenM (s : Int × Int → Bool) : Int × Int → Option Value := fun k => if s k = true then some (.bool true) else none
theorem seenM_put (s : Int × Int → Bool) (k : Int × Int) : mput (seenM s) k (.bool true) = seenM (seeS s k) := by
  funext l
  simp only [mput, seenM, seeS]
  by_cases e : l = k
  · simp [e]
  · simp [e]
theorem seenM_none (k : Int × Int) : mput (fun _ => none) k (.bool true) = seenM (seeS (fun _ => false) k) := by
  rw [← seenM_put]
  congr 1
theorem seenM_get (s : Int × Int → Bool) (k : Int × Int) : mget (seenM s) (.bool false) k = .bool (s k) := by
  unfold mget seenM
  cases h : s k <;> simp
instance : MapT Try.prog 69 4 (.bool false) := ⟨Try.underlying69, by kernel_rfl⟩
section
variable {P : Program} {ops : Array Oper} {Q : Exit → Act → World → Prop} {a : Act} {w w0 : World} {M : Nat → Prop} {cs fx : List (Chunk w0 M)} {f : Chunk w0 M → List (Chunk w0 M)} {rest : List Oper} {d : Option Tmp} {tt ty t e : TypeId} {pos : String} {af : Array Edge} {gd : Option (Nat × Bool)} {x y z : Operand} {g : Nat} {i j : Int} {m : Int × Int → Option Value} {v zv : Value}
theorem sKb {s : Int × Int → Bool} (hS : St w0 M cs w) [hp : PickM g cs m f] (hw : Region.wanted ⟨d, .lookup 69 x y false, tt, pos, af, gd⟩ (yielded ops a.tmps) = true) (hx' : oval a x = some (.map (some g))) (hy' : oval a y = some (.agg #[.int .i64 i, .int .i64 j])) (hm : m = seenM s) (k : wpList Try.prog ops Q rest (a.put d (.bool (s (i, j)))) w) :
    wpList Try.prog ops Q (⟨d, .lookup 69 x y false, tt, pos, af, gd⟩ :: rest) a w := by
  have h := look_one (t := 69) (d := d) (tt := tt) (pos := pos) (af := af) (gd := gd) hx' hy' (hS.mapAt (hp := hp))
  rw [hm, seenM_get] at h
  exact st_run hw h k
theorem sU2 (hS : St w0 M cs w) [hT : MapT Try.prog t e zv] (hw : Region.wanted ⟨d, .insert t x y z, tt, pos, af, gd⟩ (yielded ops a.tmps) = true) (hx' : oval a x = some (.map (some g))) (hy' : oval a y = some (.agg #[.int .i64 i, .int .i64 j])) (hz' : oval a z = some v) [hp : PickM g cs m f] (k : ∀ w', St w0 M (f (mpc g (mput m (i, j) v))) w' → wpList Try.prog ops Q rest (a.put d undef) w') :
    wpList Try.prog ops Q (⟨d, .insert t x y z, tt, pos, af, gd⟩ :: rest) a w := by
  have hS' : St w0 M (f (mpc g m)) w := hp.eq ▸ hS
  obtain ⟨w', h1, h2, h3⟩ := run_upd hT (hS'.at_ hp.gap) (i, j) v
  refine st_skip hw (w' := w') (by simp only [execOp, oval_eval hx', oval_eval hy', oval_eval hz', Sem.run_bind, h1, Result.andThen_ok, Sem.run_pure]) (k w' (hS'.updG hp.gap h3 h2 (fun k e => .inl e)))
/-- a struct of a row -/
theorem sL8 {n b o sz nn mm cp : Nat} {us vs : List Value} (hS : St w0 M cs w) [h1 : TyN P ty n] [hp : PickG b cs e sz nn mm cp vs f] (hw : Region.wanted ⟨d, .load ty x, tt, pos, af, gd⟩ (yielded ops a.tmps) = true) (hx' : oval a x = some (.pointer (some ⟨b, o, none⟩))) (hus : ∀ (i : Nat) u, us[i]? = some u → vs[o + i]? = some u) (hl : us.length = n)
    (k : wpList P ops Q rest (a.put d (.agg us.toArray)) w) : wpList P ops Q (⟨d, .load ty x, tt, pos, af, gd⟩ :: rest) a w := by
  have ho : w.ownsRow 0 e sz (.slice (some ⟨b, 0, none⟩) mm cp) nn vs := (hp.eq ▸ hS : St w0 M (f (row (.slice (some ⟨b, 0, none⟩) mm cp) e sz nn vs)) w).at_ hp.gap
  refine st_loadN h1 hw hx' hl (fun i u hu => ?_) k
  have h2 := ho.cells (g := b) rfl (o + i) u (hus i u hu)
  rw [add_mk, Nat.zero_add] at h2
  exact h2
theorem run_sliceTo {n m c b o sz : Nat} (hu : P.underlying t = some (.slice e)) (hs : (P.info? e).map (·.size) = some sz) (hm : m ≤ c) (w : World) :
    (Instr.sliceAt t (.slice (some ⟨b, o, none⟩) n c) none (some (.int .i64 (m : Int))) none).run P w = .ok (.slice (some ⟨b, o, none⟩) m c) w := by
  simp [Instr.sliceAt, Instr.slice, run_underlying hu, Instr.sliceBounds, Instr.sliceBound, asIntOf, hm, run_sizeOf hs, add_mk]
/-- the first elements of a slice -/
theorem sV1 {n m c b o sz : Nat} (hu : P.underlying t = some (.slice e)) (hs : (P.info? e).map (·.size) = some sz) (hw : Region.wanted ⟨d, .slice t x none (some y) none, tt, pos, af, gd⟩ (yielded ops a.tmps) = true) (hx' : oval a x = some (.slice (some ⟨b, o, none⟩) n c)) (hy' : oval a y = some (.int .i64 (m : Int))) (hm : m ≤ c)
    (k : wpList P ops Q rest (a.put d (.slice (some ⟨b, o, none⟩) m c)) w) : wpList P ops Q (⟨d, .slice t x none (some y) none, tt, pos, af, gd⟩ :: rest) a w :=
  st_run hw (by simp only [execOp, (oval_eval hx'), (oval_eval hy'), Option.map_none, Option.map_some, Sem.run_bind, run_sliceTo hu hs hm, Result.andThen_ok, Sem.run_pure]) k
theorem St.rowCut {A : Option Addr} {n m c sz : Nat} {vs : List Value} (h : St w0 M cs w) [hp : PickR (.slice A n c) cs e sz n vs f] (hA : A ≠ none) (hm : m ≤ n) : St w0 M (f (row (.slice A m c) e sz m (vs.take (m * sz)))) w := by
  have h' : St w0 M (f (row (.slice A n c) e sz n vs)) w := hp.eq ▸ h
  have ho : w.ownsRow 0 e sz (.slice A n c) n vs := h'.at_ hp.gap
  refine h'.updG hp.gap (Keep.refl _ _) ?_ (fun k hk => .inl (by cases A with | none => cases hk | some a => exact hk))
  obtain ⟨h1, h2⟩ := ho
  have hmul : m * sz ≤ n * sz := Nat.mul_le_mul_right _ hm
  refine ⟨by rw [List.length_take, h1]; omega, .inr ?_⟩
  rcases h2 with ⟨h2, _⟩ | ⟨g, cap, cur, h2, h3, h4, h5, h6, h7, h8⟩
  · injection h2 with h2; exact absurd h2 hA
  · injection h2 with e1 e2 e3
    subst e1 e3
    refine ⟨g, c, cur, rfl, h3, h4, by omega, h6, h7, ?_⟩
    rw [← h8, List.take_take]
    congr 1
    omega
/-- a block as a row -/
theorem St.blkRow {n sz : Nat} {vs : List Value} (h : St w0 M cs w) [hp : PickB g cs vs e f] (hn : vs.length = n * sz) (hc : n ≤ 9223372036854775807) : St w0 M (f (row (.slice (some ⟨g, 0, none⟩) n n) e sz n vs)) w := by
  have h' : St w0 M (f (blk g vs e)) w := hp.eq ▸ h
  have hb : w.heap[g]? = some (.cells vs.toArray e (0, 0)) := h'.at_ hp.gap
  refine h'.updG hp.gap (Keep.refl _ _) ⟨hn, .inr ⟨g, n, vs.toArray, rfl, Nat.zero_le _, hb, Nat.le_refl _, hc, by simpa using hn, by rw [← hn]; simp⟩⟩ (fun k hk => .inl ?_)
  injection hk with hk
  exact hk.symm
end
/-- what a visit makes of the points seen and of the stack -/
def vsS (s : Int × Int → Bool) (y : Nat × Int) : Int × Int → Bool := if s (key y) = true then s else seeS s (key y)
def vsL (s : Int × Int → Bool) (l : List (Nat × Int)) (y : Nat × Int) : List (Nat × Int) := if s (key y) = true then l else l ++ [y]
theorem vsS_self (s : Int × Int → Bool) (y : Nat × Int) : vsS s y (key y) = true := by
  unfold vsS; split
  · assumption
  · simp [seeS]
theorem vsS_mono (s : Int × Int → Bool) (y : Nat × Int) {k : Int × Int} (h : s k = true) : vsS s y k = true := by
  unfold vsS; split
  · exact h
  · simp [seeS, h]
theorem vsL_len (s : Int × Int → Bool) (l : List (Nat × Int)) (y : Nat × Int) : (vsL s l y).length ≤ l.length + 1 := by
  unfold vsL; split <;> simp
theorem Dfs.visitV {p : Pat} (hg : Good p) {b x y : Nat × Int} {s : Int × Int → Bool} {l : List (Nat × Int)} (h : Dfs p b s l (some x)) (hy : PtOk p y) (hr : Reach p b y) : Dfs p b (vsS s y) (vsL s l y) (some x) ∧ 2 * unseen p (vsS s y) + (vsL s l y).length ≤ 2 * unseen p s + l.length := by
  unfold vsS vsL
  by_cases hs : s (key y) = true
  · rw [if_pos hs, if_pos hs]; exact ⟨h, Nat.le_refl _⟩
  · rw [if_neg hs, if_neg hs]
    have := unseen_lt hg hy (by simpa using hs)
    refine ⟨h.visit hy hr, ?_⟩
    simp only [List.length_append, List.length_singleton]
    omega
set_option maxRecDepth 100000 in
set_option maxHeartbeats 3200000 in
theorem bvisit_st {w0 w : World} {M : Nat → Prop} {cs : List (Chunk w0 M)} (gm gk gv : Nat) (s : Int × Int → Bool) (l : List (Nat × Int)) (L : Option Addr) (c : Nat) (y : Nat × Int)
    (hS : St w0 M (mpc gm (seenM s) :: blk gk [.slice L l.length c] 32 :: row (.slice L l.length c) 37 2 l.length (l.flatMap ptCells) :: blk gv [.map (some gm)] 69 :: cs) w) (hl : l.length ≤ 100000) :
    Calls Try.prog 66 #[.agg #[.int .i64 (y.1 : Int), .int .i64 y.2], .pointer (some ⟨gv, 0, none⟩), .pointer (some ⟨gk, 0, none⟩)] w fun e w' => e = .returned (.tuple #[]) ∧ ∃ L' c', St w0 M (mpc gm (seenM (vsS s y)) :: blk gk [.slice L' (vsL s l y).length c'] 32 :: row (.slice L' (vsL s l y).length c') 37 2 (vsL s l y).length ((vsL s l y).flatMap ptCells) :: blk gv [.map (some gm)] 69 :: cs) w' := by
  obtain ⟨q, k⟩ := y
  simp only at *
  unfold vsS vsL
  by_cases hs : s (key (q, k)) = true
  · rw [if_pos hs, if_pos hs]
    have hs' : s ((q : Int), k) = true := hs
    go_enter Try.func66, Try.ntmps66
    go_wp2_with (first | (refine oK ?_; refine sKb hS rfl rfl rfl rfl ?_) | (refine oL ?_; (first | refine sL1 hS rfl rfl rfl ?_ | refine sL2 hS rfl rfl rfl ?_ | refine sL3 hS rfl rfl ?_ | refine sL4 hS rfl rfl ?_ | refine sL5 hS rfl rfl ?_ | refine sL6 hS rfl rfl ?_ | refine sL7 hS rfl rfl ?_)) | (refine oS ?_; ((first | refine sS1 hS rfl rfl rfl ?_ | refine sS2 hS rfl rfl rfl ?_ | refine sS3 hS rfl rfl rfl ?_ | refine sS4 hS rfl rfl rfl ?_ | refine sS5 hS rfl rfl rfl ?_); clear hS; intro w hS)) | (refine oK ?_; (first | refine sK1 hS rfl rfl rfl ?_ | refine sK2 hS rfl rfl rfl ?_ | refine sK3 hS rfl rfl rfl ?_)) | (refine oU ?_; (refine sU1 hS rfl rfl rfl rfl ?_; clear hS; intro w hS)) | (refine oP ?_; ((first | refine sP1 hS rfl rfl rfl ?_ | refine sP2 hS rfl rfl rfl ?_ | refine sP3 hS rfl rfl rfl ?_); clear hS; first | ((fail_if_success guard_hyp L1); intro L1 cl1 w hL1 hM1 hS) | ((fail_if_success guard_hyp L2); intro L2 cl2 w hL2 hM2 hS) | fail)) | ((first | (refine oB ?_; first | refine sB1 hS rfl rfl ?_ | refine sB2 hS rfl rfl ?_) | (refine oC ?_; first | refine sC0 hS rfl ?_ | refine sC1 hS rfl rfl ?_ | refine sC2 hS rfl rfl ?_ | refine sC3 hS rfl rfl rfl ?_ | refine sC4 hS rfl rfl rfl ?_)); clear hS; first | ((fail_if_success guard_hyp g1); intro g1 w hS) | ((fail_if_success guard_hyp g2); intro g2 w hS) | ((fail_if_success guard_hyp g3); intro g3 w hS) | fail) | fail)
    go_end0
    exact ⟨rfl, L, c, hS.drop⟩
  · rw [if_neg hs, if_neg hs]
    have hs' : s ((q : Int), k) = false := by simpa using hs
    have HPUT := Lib.hid (seenM_put s ((q : Int), k))
    have HLL := Lib.hid (show (l ++ [(q, k)]).length = l.length + 1 by simp)
    have HFL := Lib.hid (show (l ++ [(q, k)]).flatMap ptCells = l.flatMap ptCells ++ [.int .i64 (q : Int), .int .i64 k] by simp [ptCells])
    go_enter Try.func66, Try.ntmps66
    go_wp2_with (first | (refine oK ?_; refine sKb hS rfl rfl rfl rfl ?_) | (refine oL ?_; (first | refine sL1 hS rfl rfl rfl ?_ | refine sL2 hS rfl rfl rfl ?_ | refine sL3 hS rfl rfl ?_ | refine sL4 hS rfl rfl ?_ | refine sL5 hS rfl rfl ?_ | refine sL6 hS rfl rfl ?_ | refine sL7 hS rfl rfl ?_)) | (refine oS ?_; ((first | refine sS1 hS rfl rfl rfl ?_ | refine sS2 hS rfl rfl rfl ?_ | refine sS3 hS rfl rfl rfl ?_ | refine sS4 hS rfl rfl rfl ?_ | refine sS5 hS rfl rfl rfl ?_); clear hS; intro w hS)) | (refine oK ?_; (first | refine sK1 hS rfl rfl rfl ?_ | refine sK2 hS rfl rfl rfl ?_ | refine sK3 hS rfl rfl rfl ?_)) | (refine oU ?_; (refine sU1 hS rfl rfl rfl rfl ?_; clear hS; intro w hS)) | (refine oP ?_; ((first | refine sP1 hS rfl rfl rfl ?_ | refine sP2 hS rfl rfl rfl ?_ | refine sP3 hS rfl rfl rfl ?_); clear hS; first | ((fail_if_success guard_hyp L1); intro L1 cl1 w hL1 hM1 hS) | ((fail_if_success guard_hyp L2); intro L2 cl2 w hL2 hM2 hS) | fail)) | ((first | (refine oB ?_; first | refine sB1 hS rfl rfl ?_ | refine sB2 hS rfl rfl ?_) | (refine oC ?_; first | refine sC0 hS rfl ?_ | refine sC1 hS rfl rfl ?_ | refine sC2 hS rfl rfl ?_ | refine sC3 hS rfl rfl rfl ?_ | refine sC4 hS rfl rfl rfl ?_)); clear hS; first | ((fail_if_success guard_hyp g1); intro g1 w hS) | ((fail_if_success guard_hyp g2); intro g2 w hS) | ((fail_if_success guard_hyp g3); intro g3 w hS) | fail) | fail)
    go_end0
    refine ⟨rfl, L1, cl1, ?_⟩
    rw [HLL.out, HFL.out, ← HPUT.out]
    exact hS.drop
end Go.Proofs.Ytkflmichekpfbaa
