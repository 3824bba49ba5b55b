/- causal.Clock, causal.Past. Conditions: the pattern is good and lies in memory, the points are points of it. -/
import Derived.Test.YtkflmichekpfbaaCausD
import Derived.Test.YtkflmichekpfbaaAwake18
namespace Go.Proofs.Ytkflmichekpfbaa
open Go.RowKit
set_option linter.unusedVariables false
set_option linter.unusedSimpArgs false
set_option linter.unusedSectionVars false

/-- c is the least consistent cut that contains the points of l -/
structure IsPast (p : Pat) (l : List (Nat × Int)) (c : List Int) : Prop where
  v : validB p.len c = true
  s : consB p.arcs c = true
  h : ∀ a ∈ l, a.2 ≤ nth c a.1
  l : ∀ z, validB p.len z = true → consB p.arcs z = true → (∀ a ∈ l, a.2 ≤ nth z a.1) → Le p.len.length c z
theorem IsPast.len {p : Pat} {l : List (Nat × Int)} {c : List Int} (h : IsPast p l c) : c.length = p.len.length := (valid_iff.1 h.v).1
theorem IsPast.unique {p : Pat} {l : List (Nat × Int)} {c d : List Int} (h : IsPast p l c) (h' : IsPast p l d) : c = d :=
  le_antisymm h.len h'.len (h.l d h'.v h'.s h'.h) (h'.l c h.v h.s h.h)
theorem past_nil {p : Pat} (hg : Good p) : IsPast p [] (List.replicate p.len.length 0) :=
  ⟨valid_zero hg, cons_zero hg, by simp, fun z hz _ _ => fun k hk => by rw [nth_rep]; exact ((valid_iff.1 hz).2 k hk).1⟩
theorem past_snoc {p : Pat} (hg : Good p) {l : List (Nat × Int)} {c d : List Int} {q : Nat} {k : Int} (hl : ∀ a ∈ l, a.1 < p.len.length) (hq : q < p.len.length) (h : IsPast p l c) (h' : IsClk p q k d) : IsPast p (l ++ [(q, k)]) (List.zipWith max c d) := by
  have hj := join_good hg h.v h'.v h.s h'.s
  have hcd : c.length = d.length := by rw [h.len, h'.len]
  have hz : zipI max c d = List.zipWith max c d := by simp [zipI, hcd]
  rw [hz] at hj
  have hnj : ∀ r, r < p.len.length → nth (List.zipWith max c d) r = max (nth c r) (nth d r) := fun r hr => by rw [← hz]; exact zipI_nth hcd (by rw [h'.len]; exact hr)
  refine ⟨hj.1, hj.2.1, fun a ha => ?_, fun z hz' hc hp => fun r hr => ?_⟩
  · rcases List.mem_append.1 ha with ha | ha
    · have := h.h a ha
      rw [hnj _ (hl a ha)]; omega
    · simp only [List.mem_singleton] at ha
      subst ha
      have := h'.e
      simp only
      rw [hnj _ hq]; omega
  · rw [hnj r hr]
    have h1 := h.l z hz' hc (fun a ha => hp a (by simp [ha])) r hr
    have h2 := h'.l z hz' hc (hp (q, k) (by simp)) r hr
    omega
theorem reps_pts (w : World) : ∀ (l : List (Nat × Int)), Reps (repPt w) 2 (l.flatMap ptCells) l
  | [] => rfl
  | a :: l => ⟨ptCells a, l.flatMap ptCells, by simp, rfl, rfl, reps_pts w l⟩
section
variable {w0 w w' : World} {M : Nat → Prop} {cs : List (Chunk w0 M)} {f f1 f2 f3 : Chunk w0 M → List (Chunk w0 M)} {gh gs gc n c1 : Nat} {A1 : Option Addr} {sm cm : Int × Int → Option Value}
theorem St.addHist (h : St w0 M cs w) (hx : Ext w w') (hH : HistB w' gh gs gc A1 n c1 sm cm) (h1 : w.heap.size ≤ gh) (h2 : w.heap.size ≤ gs) (h3 : w.heap.size ≤ gc) :
    St w0 M (mpc gc cm :: mpc gs sm :: blk gh [.slice A1 n c1, .map (some gs), .map (some gc)] 75 :: cs) w' := by
  have ha : St w0 M (pair (mpc gc cm) (pair (mpc gs sm) (blk gh [.slice A1 n c1, .map (some gs), .map (some gc)] 75)) :: cs) w' := by
    refine h.add hx ⟨hH.clk, ⟨hH.src, hH.blk, fun k e1 e2 => hH.d1 (by rw [← show k = gh from e2, ← show k = gs from e1])⟩, fun k e1 e2 => ?_⟩ (fun k hk => ?_)
    · rcases e2 with e2 | e2
      · exact hH.d3 (by rw [← show k = gs from e2, ← show k = gc from e1])
      · exact hH.d2 (by rw [← show k = gh from e2, ← show k = gc from e1])
    · rcases hk with hk | hk | hk
      · rw [show k = gc from hk]; exact h3
      · rw [show k = gs from hk]; exact h2
      · rw [show k = gh from hk]; exact h1
  have hb := ha.split
  have hc := (hb.perm (List.Perm.swap _ _ _)).split
  exact hc.perm ((List.Perm.cons _ (List.Perm.swap _ _ _)).trans (List.Perm.swap _ _ _))
theorem St.hist (h : St w0 M cs w) (d1 : gh ≠ gs) (d2 : gh ≠ gc) (d3 : gs ≠ gc) [hp1 : PickB gh cs [.slice A1 n c1, .map (some gs), .map (some gc)] 75 f1] [hp2 : PickM gs cs sm f2] [hp3 : PickM gc cs cm f3] : HistB w gh gs gc A1 n c1 sm cm :=
  ⟨(hp1.eq ▸ h : St w0 M (f1 (blk gh [.slice A1 n c1, .map (some gs), .map (some gc)] 75)) w).at_ hp1.gap, h.mapAt (f := f2), h.mapAt (f := f3), d1, d2, d3⟩
theorem St.frozOff {T : Nat → Prop} {u : World} (h : St w0 M cs w) [hp : PickK (froz T u) cs f] [hp2 : PickM gs (f nop) sm f2] [hp3 : PickM gc (f nop) cm f3] : ∀ b, T b → ¬ (b = gc ∨ b = gs) ∧ b < w.heap.size := fun b hb =>
  ⟨fun e => e.elim (fun e => h.off (c := froz T u) (d := mpc gc cm) (by rw [hp3.eq]; exact gap_mem hp3.gap) b hb e) (fun e => h.off (c := froz T u) (d := mpc gs sm) (by rw [hp2.eq]; exact gap_mem hp2.gap) b hb e), ((hp.eq ▸ h : St w0 M (f (froz T u)) w).at_ hp.gap b hb).1⟩
theorem St.ptRow {l : List (Nat × Int)} {t : TypeId} {g : Nat} {vs : List Value} (h : St w0 M cs w) [hp : PickB g cs vs t f] (hv : vs = l.flatMap ptCells) : RPt All w (some ⟨g, 0, none⟩) l := ⟨vs, h.blkRV, by rw [hv]; exact reps_pts w l⟩
end
set_option maxRecDepth 100000 in
set_option maxHeartbeats 3200000 in
theorem clock_any {S : Nat → Prop} (v : PV) (p : Pat) (q : Nat) (k : Int) (w0 : World) (hp : PatAt S w0 v p) (hg : Good p) (hpt : PtOk p (q, k)) :
    Calls Try.prog 20 #[v.val p, .int .i64 (q : Int), .int .i64 k] w0 fun e w' => ∃ (L : Option Addr) (cap : Nat) (c : List Int), e = .returned (.slice L p.len.length cap) ∧ IsClk p q k c ∧ RI (fun b => w0.heap.size ≤ b) w' L c ∧ capOk p.len.length cap ∧ Ext w0 w' := by
  have hS := St.start w0 NoM
  obtain ⟨rk, _, hr, _⟩ := hg.rank
  have hn5 := hg.n5
  have hfew := hg.few
  have HP := Lib.hid (And.intro hp (And.intro hg (And.intro hpt hr)))
  clear hp hg hpt hr
  obtain ⟨A1, c1, A2, c2, A3, c3⟩ := v
  simp only [PV.val] at *
  go_enter Try.func20, Try.ntmps20
  go_wp2_with (first | (go_at_call 62; refine (cfits_any ⟨A1, c1, A2, c2, A3, c3⟩ _ 1 p [(q, k)] _ (HP.out.1.ext hS.toExt) HP.out.2.1 (hS.ptRow (l := [(q, k)]) (by simp [ptCells])) (by intro a ha; rw [List.mem_singleton.1 ha]; exact HP.out.2.2.1) (by simp)).mono ?_; rintro e w ⟨rfl, hx1⟩; replace hS := hS.ext hx1) | (refine oL ?_; (first | refine sL1 hS rfl rfl rfl ?_ | refine sL2 hS rfl rfl rfl ?_ | refine sL3 hS rfl rfl ?_ | refine sL4 hS rfl rfl ?_ | refine sL5 hS rfl rfl ?_ | refine sL6 hS rfl rfl ?_ | refine sL7 hS rfl rfl ?_)) | (refine oS ?_; ((first | refine sS1 hS rfl rfl rfl ?_ | refine sS2 hS rfl rfl rfl ?_ | refine sS3 hS rfl rfl rfl ?_ | refine sS4 hS rfl rfl rfl ?_ | refine sS5 hS rfl rfl rfl ?_); clear hS; intro w hS)) | ((first | (refine oB ?_; first | refine sB1 hS rfl rfl ?_ | refine sB2 hS rfl rfl ?_) | refine sN1 hS rfl ?_ | (refine oC ?_; first | refine sC0 hS rfl ?_ | refine sC1 hS rfl rfl ?_ | refine sC2 hS rfl rfl ?_ | refine sC3 hS rfl rfl rfl ?_ | refine sC4 hS rfl rfl rfl ?_)); clear hS; first | ((fail_if_success guard_hyp g1); intro g1 w hS) | ((fail_if_success guard_hyp g2); intro g2 w hS) | ((fail_if_success guard_hyp g3); intro g3 w hS) | ((fail_if_success guard_hyp g4); intro g4 w hS) | fail) | fail)
  refine dr_start0 []  hS (by kernel_rfl) rfl ?_; clear hS; intro w hS
  first | refine dL1 hS 0 rfl rfl rfl rfl ?_ | refine dL2 hS 0 rfl rfl rfl rfl ?_ | refine dL3 hS 0 rfl rfl rfl ?_ | refine dL4 hS 0 rfl rfl rfl ?_ | refine dL5 hS 0 rfl rfl rfl ?_ | refine dL6 hS 0 rfl rfl rfl ?_ | refine dL7 hS 0 rfl rfl rfl ?_
  (try simp only [Act.put, nA, nB, nC])
  first | refine dL1 hS 2 rfl rfl rfl rfl ?_ | refine dL2 hS 2 rfl rfl rfl rfl ?_ | refine dL3 hS 2 rfl rfl rfl ?_ | refine dL4 hS 2 rfl rfl rfl ?_ | refine dL5 hS 2 rfl rfl rfl ?_ | refine dL6 hS 2 rfl rfl rfl ?_ | refine dL7 hS 2 rfl rfl rfl ?_
  (try simp only [Act.put, nA, nB, nC])
  refine dr_one 1 (by kernel_rfl) rfl ?_
  (refine st_call rfl (by kernel_rfl) rfl ?_; go_at_call 63; refine (newHist_any A1 A2 A3 c1 c2 c3 p.len.length p.ck.length p.arcs _ (HP.out.1.ext hS.toExt).arcs (by omega)).mono ?_; rintro e w ⟨gh, gs, gc, rfl, hH, z1, z2, z3, hx1⟩; replace hS := hS.addHist hx1 hH z1 z2 z3; have HD := Lib.hid (And.intro hH.d1 (And.intro hH.d2 hH.d3)); clear hH z1 z2 z3 hx1)
  (try simp only [Act.put, nA, nB, nC])
  refine dr_end hS ?_
  refine dr_one 3 (by kernel_rfl) rfl ?_
  (refine st_call rfl (by kernel_rfl) rfl ?_; go_at_call 64; refine (clock_rec p HP.out.2.1 rk HP.out.2.2.2 gh gs gc A1 c1 _ q k (fun _ => False) (fun _ => none) w (Nat.lt_succ_self _) HP.out.2.2.1 (hS.hist HD.out.1 HD.out.2.1 HD.out.2.2) (fun _ h => h.elim) (Memo.none _ _ _)).mono ?_; rintro e u1 ⟨L1, cap1, cl, cm1, rfl, hclk, hri, hcap, hm1, hm2, hmm, hkeep⟩; have hwl := hS.le; replace hS := hS.usedH hkeep hm1 hm2)
  (try simp only [Act.put, nA, nB, nC])
  refine dr_end hS ?_
  refine dA hS 4 rfl rfl rfl ?_
  (try simp only [Act.put, nA, nB, nC])
  refine dr_done (by kernel_rfl) ?_
  go_wp2_with (first | (refine oL ?_; (first | refine sL1 hS rfl rfl rfl ?_ | refine sL2 hS rfl rfl rfl ?_ | refine sL3 hS rfl rfl ?_ | refine sL4 hS rfl rfl ?_ | refine sL5 hS rfl rfl ?_ | refine sL6 hS rfl rfl ?_ | refine sL7 hS rfl rfl ?_)) | (refine oS ?_; ((first | refine sS1 hS rfl rfl rfl ?_ | refine sS2 hS rfl rfl rfl ?_ | refine sS3 hS rfl rfl rfl ?_ | refine sS4 hS rfl rfl rfl ?_ | refine sS5 hS rfl rfl rfl ?_); clear hS; intro w hS)) | ((first | (refine oB ?_; first | refine sB1 hS rfl rfl ?_ | refine sB2 hS rfl rfl ?_) | refine sN1 hS rfl ?_ | (refine oC ?_; first | refine sC0 hS rfl ?_ | refine sC1 hS rfl rfl ?_ | refine sC2 hS rfl rfl ?_ | refine sC3 hS rfl rfl rfl ?_ | refine sC4 hS rfl rfl rfl ?_)); clear hS; first | ((fail_if_success guard_hyp g1); intro g1 w hS) | ((fail_if_success guard_hyp g2); intro g2 w hS) | ((fail_if_success guard_hyp g3); intro g3 w hS) | ((fail_if_success guard_hyp g4); intro g4 w hS) | fail) | fail)
  go_ret
  exact ⟨L1, cap1, cl, rfl, hclk, (hri.into (fun b hb hl => ⟨by rcases hb with hb | hb; exact hb.elim; omega, rfl⟩)), hcap, hS.toExt⟩
end Go.Proofs.Ytkflmichekpfbaa
