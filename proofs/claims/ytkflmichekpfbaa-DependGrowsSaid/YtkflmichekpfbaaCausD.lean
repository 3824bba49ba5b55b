/- causal: the clock of a point, by recursion with a memory of clocks. Conditions: the pattern is good, the history lies in memory. -/
import Derived.Test.YtkflmichekpfbaaCausC
import Derived.Test.YtkflmichekpfbaaOwnP
namespace Go.Proofs.Ytkflmichekpfbaa
open Go.RowKit
set_option linter.unusedVariables false
set_option linter.unusedSimpArgs false

theorem raise_st {w0 w : World} {M S : Nat → Prop} {cs : List (Chunk w0 M)} {f : Chunk w0 M → List (Chunk w0 M)} {g cp cd n : Nat} {D : Option Addr} {zs ds : List Int} (h : St w0 M cs w) [hp : PickR (.slice (some ⟨g, 0, none⟩) n cp) cs 3 1 n (ints zs) f] (hz : zs.length = n) (hd : RI S w D ds) (hS0 : ∀ k, S k → k ≠ g) (hl : ds.length = n) (hn : n ≤ 1000) :
    Calls Try.prog 67 #[.slice (some ⟨g, 0, none⟩) n cp, .slice D n cd] w fun e w' => e = .returned (.tuple #[]) ∧ St w0 M (f (row (.slice (some ⟨g, 0, none⟩) n cp) 3 1 n (ints (List.zipWith max zs ds)))) w' := by
  have hS' : St w0 M (f (row (.slice (some ⟨g, 0, none⟩) n cp) 3 1 n (ints zs))) w := hp.eq ▸ h
  have ho : w.ownsRow 0 3 1 (.slice (some ⟨g, 0, none⟩) n cp) n (ints zs) := hS'.at_ hp.gap
  subst hz
  refine (raise_row g cp cd D zs ds w ho hd hS0 hl hn).mono ?_
  rintro e w' ⟨rfl, hk, ho'⟩
  exact ⟨rfl, hS'.updG hp.gap (hk.mono (fun k hk => fun e => hk (by rw [e]; rfl))) ho' (fun k e => .inl e)⟩
def ClkPost (p : Pat) (gs gc : Nat) (S : Nat → Prop) (w0 : World) (q : Nat) (k : Int) (e : Ending) (w' : World) : Prop :=
  ∃ (L : Option Addr) (cap : Nat) (c : List Int) (cm' : Int × Int → Option Value), e = .returned (.slice L p.len.length cap) ∧ IsClk p q k c ∧ RI (Orn S w0) w' L c ∧ capOk p.len.length cap ∧ MapAt w' gc cm' ∧ MapAt w' gs (srcM p.arcs) ∧ Memo p (Orn S w0) w' cm' ∧ Keep (fun b => ¬ (b = gc ∨ b = gs)) w0 w'
theorem St.intoS {w0 w : World} {M S : Nat → Prop} {cs : List (Chunk w0 M)} (h : St w0 M cs w) (hS : ∀ k, S k → ¬ M k) : Into S (Orn S w0) w0 w := fun k hs hk => ⟨.inl hs, h.keep.block k hk (hS k hs)⟩
theorem St.notIn {w0 w : World} {M : Nat → Prop} {cs : List (Chunk w0 M)} {f : Chunk w0 M → List (Chunk w0 M)} {c : Chunk w0 M} (h : St w0 M cs w) [hp : PickK c cs f] {g : Nat} {m : Int × Int → Option Value} (hq : mpc g m ∈ f nop) : ∀ b, c.own b → b ≠ g := by
  intro b hb e
  subst e
  have h' : St w0 M (f c) w := hp.eq ▸ h
  obtain ⟨s, h1, h2⟩ := gap_perm hp.gap c
  have hm : mpc b m ∈ s := by
    rcases List.mem_cons.1 ((h2 nop).mem_iff.2 hq) with h3 | h3
    · have := congrArg (fun c => c.own b) h3
      simp [mpc, nop] at this
    · exact h3
  exact (List.pairwise_cons.1 (h'.perm h1).apart).1 _ hm b hb rfl
theorem St.newH {w0 w : World} {gc gs : Nat} {cs : List (Chunk w0 (fun k => k = gc ∨ k = gs))} {f : Chunk w0 (fun k => k = gc ∨ k = gs) → List (Chunk w0 (fun k => k = gc ∨ k = gs))} {c : Chunk w0 (fun k => k = gc ∨ k = gs)} {cm sm : Int × Int → Option Value} (h : St w0 (fun k => k = gc ∨ k = gs) cs w) [hp : PickK c cs f] {f1 f2 : Chunk w0 (fun k => k = gc ∨ k = gs) → List (Chunk w0 (fun k => k = gc ∨ k = gs))} [hq1 : PickM gc (f nop) cm f1] [hq2 : PickM gs (f nop) sm f2] : ∀ b, c.own b → w0.heap.size ≤ b := by
  intro b hb
  have h' : St w0 (fun k => k = gc ∨ k = gs) (f c) w := hp.eq ▸ h
  obtain ⟨l, r, he⟩ := hp.gap.ex
  rw [he] at h'
  rcases h'.new c (by simp) b hb with h1 | h1 | h1
  · exact h1
  · exact absurd h1 (h.notIn (g := gc) (m := cm) (by rw [hq1.eq]; exact gap_mem hq1.gap) b hb)
  · exact absurd h1 (h.notIn (g := gs) (m := sm) (by rw [hq2.eq]; exact gap_mem hq2.gap) b hb)
theorem St.riH {w0 w : World} {gc gs : Nat} {S : Nat → Prop} {cs : List (Chunk w0 (fun k => k = gc ∨ k = gs))} {f : Chunk w0 (fun k => k = gc ∨ k = gs) → List (Chunk w0 (fun k => k = gc ∨ k = gs))} {cm sm : Int × Int → Option Value} {A : Option Addr} {k c n : Nat} {e : TypeId} {xs : List Int} (h : St w0 (fun k => k = gc ∨ k = gs) cs w) [hp : PickL A cs k c e 1 n (ints xs) f] {f1 f2 : Chunk w0 (fun k => k = gc ∨ k = gs) → List (Chunk w0 (fun k => k = gc ∨ k = gs))} [hq1 : PickM gc (f nop) cm f1] [hq2 : PickM gs (f nop) sm f2] : RI (Orn S w0) w A xs := by
  have hk : PickK (row (.slice A k c) e 1 n (ints xs) : Chunk w0 (fun k => k = gc ∨ k = gs)) cs f := ⟨hp.eq, hp.gap⟩
  have hnew := St.newH (hp := hk) (hq1 := hq1) (hq2 := hq2) h
  have h1 : RV (fun b => (Value.slice A k c).ownBlock = some b) w A (ints xs) := h.rvOwn (hp := hp)
  exact RV.sub h1 (fun b hb => .inr (hnew b hb))
/-- what was said of older data and of data that a call has made -/
theorem St.intoN {w0 w u : World} {M S N : Nat → Prop} {cs : List (Chunk w0 M)} {f : Chunk w0 M → List (Chunk w0 M)} (h : St w0 M cs w) [hp : PickK (froz N u) cs f] (hSl : ∀ b, S b → b < w0.heap.size) (hSM : ∀ b, S b → ¬ M b) (hK : Keep (fun k => ¬ M k) w0 u) : Into (fun b => S b ∨ N b) (fun b => S b ∨ N b) u w := by
  have hf := (hp.eq ▸ h : St w0 M (f (froz N u)) w).at_ hp.gap
  intro b hb hl
  refine ⟨hb, ?_⟩
  rcases hb with hb | hb
  · rw [h.keep.block b (hSl b hb) (hSM b hb), hK.block b (hSl b hb) (hSM b hb)]
  · exact (hf b hb).2
theorem srcF_none {az : List Arc} {q : Nat} {k : Int} (h : srcF az ((q : Int), k) = none) (hk : k ≠ 0) : ∀ a ∈ az, a.to = q → a.at_ ≠ k := by
  intro a ha e1 e2
  unfold srcF at h
  rw [Option.map_eq_none_iff, List.find?_eq_none] at h
  have := h a (by simpa using ha)
  apply this
  simp [e1, e2, hk]
theorem srcF_some {az : List Arc} {q : Nat} {k : Int} {s : Nat × Int} (h : srcF az ((q : Int), k) = some s) : ∃ a ∈ az, a.to = q ∧ a.at_ = k ∧ k ≠ 0 ∧ s = (a.fr, a.ix) := by
  unfold srcF at h
  rw [Option.map_eq_some_iff] at h
  obtain ⟨a, ha, hs⟩ := h
  have hm := List.mem_of_find?_eq_some ha
  have hp := List.find?_some ha
  simp only [Bool.and_eq_true, decide_eq_true_eq, Prod.mk.injEq] at hp
  exact ⟨a, by simpa using hm, by omega, hp.2.2, by rw [← hp.2.2]; exact hp.1, hs.symm⟩
theorem St.off {w0 w : World} {M : Nat → Prop} {cs : List (Chunk w0 M)} {f : Chunk w0 M → List (Chunk w0 M)} {c d : Chunk w0 M} (h : St w0 M cs w) [hp : PickK c cs f] (hq : d ∈ f nop) : ∀ b, c.own b → ¬ d.own b := by
  intro b hb hd
  have h' : St w0 M (f c) w := hp.eq ▸ h
  obtain ⟨s, h1, h2⟩ := gap_perm hp.gap c
  rcases List.mem_cons.1 ((h2 nop).mem_iff.2 hq) with h3 | h3
  · subst h3; exact hd
  · exact (List.pairwise_cons.1 (h'.perm h1).apart).1 _ h3 b hb hd
theorem St.offRow {w0 w : World} {M : Nat → Prop} {cs : List (Chunk w0 M)} {f f2 : Chunk w0 M → List (Chunk w0 M)} {c : Chunk w0 M} {g n m cp sz : Nat} {e : TypeId} {vs : List Value} (h : St w0 M cs w) [hp : PickK c cs f] [hq : PickG g (f nop) e sz n m cp vs f2] : ∀ b, c.own b → b ≠ g := by
  intro b hb e
  subst e
  exact h.off (d := row (.slice (some ⟨b, 0, none⟩) m cp) e sz n vs) (by rw [hq.eq]; exact gap_mem hq.gap) b hb rfl
/-- the same, of the data of two calls -/
theorem St.intoN2 {w0 w u1 u2 : World} {M S N1 N2 : Nat → Prop} {cs : List (Chunk w0 M)} {f f' : Chunk w0 M → List (Chunk w0 M)} (h : St w0 M cs w) [hp : PickK (froz N1 u1) cs f] [hp' : PickK (froz N2 u2) cs f'] (hF : ∀ b, N1 b → u2.heap[b]? = u1.heap[b]?) (hSl : ∀ b, S b → b < w0.heap.size) (hSM : ∀ b, S b → ¬ M b) (hK : Keep (fun k => ¬ M k) w0 u2) : Into (fun b => (S b ∨ N1 b) ∨ N2 b) (fun b => (S b ∨ N1 b) ∨ N2 b) u2 w := by
  have hf := (hp.eq ▸ h : St w0 M (f (froz N1 u1)) w).at_ hp.gap
  have hf' := (hp'.eq ▸ h : St w0 M (f' (froz N2 u2)) w).at_ hp'.gap
  intro b hb hl
  refine ⟨hb, ?_⟩
  rcases hb with (hb | hb) | hb
  · rw [h.keep.block b (hSl b hb) (hSM b hb), hK.block b (hSl b hb) (hSM b hb)]
  · exact (hf b hb).2.trans (hF b hb).symm
  · exact (hf' b hb).2
theorem St.frozAt {w0 w u : World} {M N : Nat → Prop} {cs : List (Chunk w0 M)} {f : Chunk w0 M → List (Chunk w0 M)} (h : St w0 M cs w) [hp : PickK (froz N u) cs f] : ∀ b, N b → w.heap[b]? = u.heap[b]? := fun b hb =>
  (((hp.eq ▸ h : St w0 M (f (froz N u)) w).at_ hp.gap) b hb).2
set_option maxRecDepth 100000 in
set_option maxHeartbeats 3200000 in
theorem clock_rec (p : Pat) (hg : Good p) (rk : Nat → Int → Nat) (hr : Ranked p.len.length p.len p.arcs rk) (gh gs gc : Nat) (A1 : Option Addr) (c1 : Nat) : ∀ (f : Nat) (q : Nat) (k : Int) (S : Nat → Prop) (cm : Int × Int → Option Value) (w0 : World), rk q k < f → PtOk p (q, k) → HistB w0 gh gs gc A1 p.len.length c1 (srcM p.arcs) cm → (∀ b, S b → ¬ (b = gc ∨ b = gs) ∧ b < w0.heap.size) → Memo p S w0 cm →
    Calls Try.prog 64 #[.pointer (some ⟨gh, 0, none⟩), .agg #[.int .i64 (q : Int), .int .i64 k]] w0 (ClkPost p gs gc S w0 q k)
  | 0, q, k, S, cm, w0, hf, _, _, _, _ => absurd hf (by omega)
  | f + 1, q, k, S, cm, w0, hf, hpt, hH, hS0, hmm => by
    have hS := St.startH hH.clk hH.src hH.d3
    have hc0 : w0.cell? ⟨gh, 0, none⟩ = some (.slice A1 p.len.length c1) := cell_of_heap hH.blk rfl
    have hc1 : w0.cell? ⟨gh, 1, none⟩ = some (.map (some gs)) := cell_of_heap hH.blk rfl
    have hc2 : w0.cell? ⟨gh, 2, none⟩ = some (.map (some gc)) := cell_of_heap hH.blk rfl
    have hgh : ¬ (gh = gc ∨ gh = gs) := fun h => h.elim hH.d2 hH.d1
    have hSl : ∀ b, S b → b < w0.heap.size := fun b hb => (hS0 b hb).2
    have HH := Lib.hid (And.intro hH (And.intro (fun b hb => (hS0 b hb).1 : ∀ b, S b → ¬ (b = gc ∨ b = gs)) hmm))
    have HI := Lib.hid (clock_rec p hg rk hr gh gs gc A1 c1 f)
    clear hS0 hmm hH
    cases hcm : cm ((q : Int), k) with
    | some v =>
      obtain ⟨q', k', L, cap, c, e1, rfl, hck, hri, hcap⟩ := HH.out.2.2 _ _ hcm
      injection e1 with e1 e2
      have e1' : q' = q := by omega
      subst e1' e2
      go_enter Try.func64, Try.ntmps64
      go_wp2_with (first | (refine oL ?_; (first | refine sL1 hS rfl rfl rfl ?_ | refine sL2 hS rfl rfl rfl ?_ | refine sL3 hS rfl rfl ?_ | refine sL4 hS rfl rfl ?_ | refine sL5 hS rfl rfl ?_ | refine sL6 hS rfl rfl ?_ | refine sL7 hS rfl rfl ?_)) | (refine oS ?_; ((first | refine sS1 hS rfl rfl rfl ?_ | refine sS2 hS rfl rfl rfl ?_ | refine sS3 hS rfl rfl rfl ?_ | refine sS4 hS rfl rfl rfl ?_ | refine sS5 hS rfl rfl rfl ?_); clear hS; intro w hS)) | ((first | (refine oB ?_; first | refine sB1 hS rfl rfl ?_ | refine sB2 hS rfl rfl ?_) | refine sM1 hS rfl rfl rfl ?_); clear hS; first | ((fail_if_success guard_hyp g1); intro g1 w hS) | ((fail_if_success guard_hyp g2); intro g2 w hS) | ((fail_if_success guard_hyp g3); intro g3 w hS) | ((fail_if_success guard_hyp g4); intro g4 w hS) | fail) | fail)
      refine dr_start0 []  hS (by kernel_rfl) rfl ?_; clear hS; intro w hS
      refine dM hS 0 rfl rfl rfl ?_
      (try simp only [Act.put, nA, nB, nC])
      refine dP hS 1 rfl rfl ?_
      (try simp only [Act.put, nA, nB, nC])
      refine dP hS 2 rfl rfl ?_
      (try simp only [Act.put, nA, nB, nC])
      first | refine dL1 hS 3 rfl rfl rfl rfl ?_ | refine dL2 hS 3 rfl rfl rfl rfl ?_ | refine dL3 hS 3 rfl rfl rfl ?_ | refine dL4 hS 3 rfl rfl rfl ?_ | refine dL5 hS 3 rfl rfl rfl ?_ | refine dL6 hS 3 rfl rfl rfl ?_ | refine dL7 hS 3 rfl rfl rfl ?_
      (try simp only [Act.put, nA, nB, nC])
      first | refine dL1 hS 4 rfl rfl rfl rfl ?_ | refine dL2 hS 4 rfl rfl rfl rfl ?_ | refine dL3 hS 4 rfl rfl rfl ?_ | refine dL4 hS 4 rfl rfl rfl ?_ | refine dL5 hS 4 rfl rfl rfl ?_ | refine dL6 hS 4 rfl rfl rfl ?_ | refine dL7 hS 4 rfl rfl rfl ?_
      (try simp only [Act.put, nA, nB, nC])
      first | refine dK1 hS 5 rfl rfl rfl rfl ?_ | refine dK2 hS 5 rfl rfl rfl rfl ?_ | refine dK3 hS 5 rfl rfl rfl rfl ?_
      (try simp only [Act.put, nA, nB, nC])
      refine dM hS 6 rfl rfl rfl ?_
      (try simp only [Act.put, nA, nB, nC])
      refine dP hS 7 rfl rfl ?_
      (try simp only [Act.put, nA, nB, nC])
      refine dP hS 8 rfl rfl ?_
      (try simp only [Act.put, nA, nB, nC])
      refine dA hS 9 rfl rfl rfl ?_
      (try simp only [Act.put, nA, nB, nC])
      refine dA hS 10 rfl rfl rfl ?_
      (try simp only [Act.put, nA, nB, nC])
      refine dr_done (by kernel_rfl) ?_
      go_wp2_with (first | (refine oL ?_; (first | refine sL1 hS rfl rfl rfl ?_ | refine sL2 hS rfl rfl rfl ?_ | refine sL3 hS rfl rfl ?_ | refine sL4 hS rfl rfl ?_ | refine sL5 hS rfl rfl ?_ | refine sL6 hS rfl rfl ?_ | refine sL7 hS rfl rfl ?_)) | (refine oS ?_; ((first | refine sS1 hS rfl rfl rfl ?_ | refine sS2 hS rfl rfl rfl ?_ | refine sS3 hS rfl rfl rfl ?_ | refine sS4 hS rfl rfl rfl ?_ | refine sS5 hS rfl rfl rfl ?_); clear hS; intro w hS)) | ((first | (refine oB ?_; first | refine sB1 hS rfl rfl ?_ | refine sB2 hS rfl rfl ?_) | refine sM1 hS rfl rfl rfl ?_); clear hS; first | ((fail_if_success guard_hyp g1); intro g1 w hS) | ((fail_if_success guard_hyp g2); intro g2 w hS) | ((fail_if_success guard_hyp g3); intro g3 w hS) | ((fail_if_success guard_hyp g4); intro g4 w hS) | fail) | fail)
      go_ret
      exact ⟨L, cap, c, cm, rfl, hck, hri.into (hS.intoS HH.out.2.1), hcap, hS.mapAt, hS.mapAt, HH.out.2.2.into (hS.intoS HH.out.2.1), hS.keep⟩
    | none =>
      have hn5 := hg.n5
      have hqn : (q : Int) < p.len.length := by have := hpt.1; simp only at this; omega
      have hqn' : q < p.len.length := hpt.1
      by_cases hk0 : k = 0
      · subst hk0
        go_enter Try.func64, Try.ntmps64
        go_wp2_with (first | (refine oL ?_; (first | refine sL1 hS rfl rfl rfl ?_ | refine sL2 hS rfl rfl rfl ?_ | refine sL3 hS rfl rfl ?_ | refine sL4 hS rfl rfl ?_ | refine sL5 hS rfl rfl ?_ | refine sL6 hS rfl rfl ?_ | refine sL7 hS rfl rfl ?_)) | (refine oS ?_; ((first | refine sS1 hS rfl rfl rfl ?_ | refine sS2 hS rfl rfl rfl ?_ | refine sS3 hS rfl rfl rfl ?_ | refine sS4 hS rfl rfl rfl ?_ | refine sS5 hS rfl rfl rfl ?_); clear hS; intro w hS)) | ((first | (refine oB ?_; first | refine sB1 hS rfl rfl ?_ | refine sB2 hS rfl rfl ?_) | refine sM1 hS rfl rfl rfl ?_); clear hS; first | ((fail_if_success guard_hyp g1); intro g1 w hS) | ((fail_if_success guard_hyp g2); intro g2 w hS) | ((fail_if_success guard_hyp g3); intro g3 w hS) | ((fail_if_success guard_hyp g4); intro g4 w hS) | fail) | fail)
        refine dr_start0 []  hS (by kernel_rfl) rfl ?_; clear hS; intro w hS
        refine dM hS 0 rfl rfl rfl ?_
        (try simp only [Act.put, nA, nB, nC])
        refine dP hS 1 rfl rfl ?_
        (try simp only [Act.put, nA, nB, nC])
        refine dP hS 2 rfl rfl ?_
        (try simp only [Act.put, nA, nB, nC])
        first | refine dL1 hS 3 rfl rfl rfl rfl ?_ | refine dL2 hS 3 rfl rfl rfl rfl ?_ | refine dL3 hS 3 rfl rfl rfl ?_ | refine dL4 hS 3 rfl rfl rfl ?_ | refine dL5 hS 3 rfl rfl rfl ?_ | refine dL6 hS 3 rfl rfl rfl ?_ | refine dL7 hS 3 rfl rfl rfl ?_
        (try simp only [Act.put, nA, nB, nC])
        first | refine dL1 hS 4 rfl rfl rfl rfl ?_ | refine dL2 hS 4 rfl rfl rfl rfl ?_ | refine dL3 hS 4 rfl rfl rfl ?_ | refine dL4 hS 4 rfl rfl rfl ?_ | refine dL5 hS 4 rfl rfl rfl ?_ | refine dL6 hS 4 rfl rfl rfl ?_ | refine dL7 hS 4 rfl rfl rfl ?_
        (try simp only [Act.put, nA, nB, nC])
        first | refine dK1 hS 5 rfl rfl rfl rfl ?_ | refine dK2 hS 5 rfl rfl rfl rfl ?_ | refine dK3 hS 5 rfl rfl rfl rfl ?_
        (try simp only [Act.put, nA, nB, nC])
        refine dM hS 6 rfl rfl rfl ?_
        (try simp only [Act.put, nA, nB, nC])
        refine dP hS 7 rfl rfl ?_
        (try simp only [Act.put, nA, nB, nC])
        refine dP hS 8 rfl rfl ?_
        (try simp only [Act.put, nA, nB, nC])
        refine dA hS 9 rfl rfl rfl ?_
        (try simp only [Act.put, nA, nB, nC])
        refine dA hS 10 rfl rfl rfl ?_
        (try simp only [Act.put, nA, nB, nC])
        refine dr_done (by kernel_rfl) ?_
        go_wp2_with (first | (refine oL ?_; (first | refine sL1 hS rfl rfl rfl ?_ | refine sL2 hS rfl rfl rfl ?_ | refine sL3 hS rfl rfl ?_ | refine sL4 hS rfl rfl ?_ | refine sL5 hS rfl rfl ?_ | refine sL6 hS rfl rfl ?_ | refine sL7 hS rfl rfl ?_)) | (refine oS ?_; ((first | refine sS1 hS rfl rfl rfl ?_ | refine sS2 hS rfl rfl rfl ?_ | refine sS3 hS rfl rfl rfl ?_ | refine sS4 hS rfl rfl rfl ?_ | refine sS5 hS rfl rfl rfl ?_); clear hS; intro w hS)) | ((first | (refine oB ?_; first | refine sB1 hS rfl rfl ?_ | refine sB2 hS rfl rfl ?_) | refine sM1 hS rfl rfl rfl ?_); clear hS; first | ((fail_if_success guard_hyp g1); intro g1 w hS) | ((fail_if_success guard_hyp g2); intro g2 w hS) | ((fail_if_success guard_hyp g3); intro g3 w hS) | ((fail_if_success guard_hyp g4); intro g4 w hS) | fail) | fail)
        have e0 : (List.replicate p.len.length (0 : Int)).set q 0 = List.replicate p.len.length 0 := by
          apply List.ext_getElem (by simp)
          intro i h1 h2
          simp [List.getElem_set]
        rw [e0] at hS
        refine dr_start1 [] 2 hS (by kernel_rfl) rfl ?_; clear hS; intro w hS
        refine dM hS 0 rfl rfl rfl ?_
        (try simp only [Act.put, nA, nB, nC])
        refine dP hS 1 rfl rfl ?_
        (try simp only [Act.put, nA, nB, nC])
        refine dP hS 2 rfl rfl ?_
        (try simp only [Act.put, nA, nB, nC])
        first | refine dL1 hS 3 rfl rfl rfl rfl ?_ | refine dL2 hS 3 rfl rfl rfl rfl ?_ | refine dL3 hS 3 rfl rfl rfl ?_ | refine dL4 hS 3 rfl rfl rfl ?_ | refine dL5 hS 3 rfl rfl rfl ?_ | refine dL6 hS 3 rfl rfl rfl ?_ | refine dL7 hS 3 rfl rfl rfl ?_
        (try simp only [Act.put, nA, nB, nC])
        first | refine dL1 hS 4 rfl rfl rfl rfl ?_ | refine dL2 hS 4 rfl rfl rfl rfl ?_ | refine dL3 hS 4 rfl rfl rfl ?_ | refine dL4 hS 4 rfl rfl rfl ?_ | refine dL5 hS 4 rfl rfl rfl ?_ | refine dL6 hS 4 rfl rfl rfl ?_ | refine dL7 hS 4 rfl rfl rfl ?_
        (try simp only [Act.put, nA, nB, nC])
        refine dM hS 5 rfl rfl rfl ?_
        (try simp only [Act.put, nA, nB, nC])
        refine dr_one 6 (by kernel_rfl) rfl ?_
        (refine sU1 hS rfl rfl rfl rfl ?_; clear hS; intro w hS)
        (try simp only [Act.put, nA, nB, nC])
        refine dr_end hS ?_
        refine dr_done (by kernel_rfl) ?_
        go_wp2_with (first | (refine oL ?_; (first | refine sL1 hS rfl rfl rfl ?_ | refine sL2 hS rfl rfl rfl ?_ | refine sL3 hS rfl rfl ?_ | refine sL4 hS rfl rfl ?_ | refine sL5 hS rfl rfl ?_ | refine sL6 hS rfl rfl ?_ | refine sL7 hS rfl rfl ?_)) | (refine oS ?_; ((first | refine sS1 hS rfl rfl rfl ?_ | refine sS2 hS rfl rfl rfl ?_ | refine sS3 hS rfl rfl rfl ?_ | refine sS4 hS rfl rfl rfl ?_ | refine sS5 hS rfl rfl rfl ?_); clear hS; intro w hS)) | ((first | (refine oB ?_; first | refine sB1 hS rfl rfl ?_ | refine sB2 hS rfl rfl ?_) | refine sM1 hS rfl rfl rfl ?_); clear hS; first | ((fail_if_success guard_hyp g1); intro g1 w hS) | ((fail_if_success guard_hyp g2); intro g2 w hS) | ((fail_if_success guard_hyp g3); intro g3 w hS) | ((fail_if_success guard_hyp g4); intro g4 w hS) | fail) | fail)
        go_ret
        have hri : RI (Orn S w0) w (some ⟨g2, 0, none⟩) (List.replicate p.len.length 0) := hS.riH
        have hcap : capOk p.len.length p.len.length := ⟨Nat.le_refl _, by omega⟩
        exact ⟨some ⟨g2, 0, none⟩, p.len.length, _, _, rfl, clk_zero hg hqn', hri, hcap, hS.mapAt, hS.mapAt, (HH.out.2.2.into (hS.intoS HH.out.2.1)).put (clk_zero hg hqn') hri hcap, hS.keep⟩
      · have hk1 : 1 ≤ k := by have := hpt.2.1; simp only at this; omega
        have hkl : k ≤ nth p.len q := hpt.2.2
        have hk64 := hg.hi q hqn'
        have hrk1 : rk q (k - 1) < f := by
          have := hr.1 q hqn' (k - 1) (by omega) (by omega)
          rw [show k - 1 + 1 = k by omega] at this; omega
        go_enter Try.func64, Try.ntmps64
        go_wp2_with (first | (refine oL ?_; (first | refine sL1 hS rfl rfl rfl ?_ | refine sL2 hS rfl rfl rfl ?_ | refine sL3 hS rfl rfl ?_ | refine sL4 hS rfl rfl ?_ | refine sL5 hS rfl rfl ?_ | refine sL6 hS rfl rfl ?_ | refine sL7 hS rfl rfl ?_)) | (refine oS ?_; ((first | refine sS1 hS rfl rfl rfl ?_ | refine sS2 hS rfl rfl rfl ?_ | refine sS3 hS rfl rfl rfl ?_ | refine sS4 hS rfl rfl rfl ?_ | refine sS5 hS rfl rfl rfl ?_); clear hS; intro w hS)) | ((first | (refine oB ?_; first | refine sB1 hS rfl rfl ?_ | refine sB2 hS rfl rfl ?_) | refine sM1 hS rfl rfl rfl ?_); clear hS; first | ((fail_if_success guard_hyp g1); intro g1 w hS) | ((fail_if_success guard_hyp g2); intro g2 w hS) | ((fail_if_success guard_hyp g3); intro g3 w hS) | ((fail_if_success guard_hyp g4); intro g4 w hS) | fail) | fail)
        refine dr_start0 []  hS (by kernel_rfl) rfl ?_; clear hS; intro w hS
        refine dM hS 0 rfl rfl rfl ?_
        (try simp only [Act.put, nA, nB, nC])
        refine dP hS 1 rfl rfl ?_
        (try simp only [Act.put, nA, nB, nC])
        refine dP hS 2 rfl rfl ?_
        (try simp only [Act.put, nA, nB, nC])
        first | refine dL1 hS 3 rfl rfl rfl rfl ?_ | refine dL2 hS 3 rfl rfl rfl rfl ?_ | refine dL3 hS 3 rfl rfl rfl ?_ | refine dL4 hS 3 rfl rfl rfl ?_ | refine dL5 hS 3 rfl rfl rfl ?_ | refine dL6 hS 3 rfl rfl rfl ?_ | refine dL7 hS 3 rfl rfl rfl ?_
        (try simp only [Act.put, nA, nB, nC])
        first | refine dL1 hS 4 rfl rfl rfl rfl ?_ | refine dL2 hS 4 rfl rfl rfl rfl ?_ | refine dL3 hS 4 rfl rfl rfl ?_ | refine dL4 hS 4 rfl rfl rfl ?_ | refine dL5 hS 4 rfl rfl rfl ?_ | refine dL6 hS 4 rfl rfl rfl ?_ | refine dL7 hS 4 rfl rfl rfl ?_
        (try simp only [Act.put, nA, nB, nC])
        first | refine dK1 hS 5 rfl rfl rfl rfl ?_ | refine dK2 hS 5 rfl rfl rfl rfl ?_ | refine dK3 hS 5 rfl rfl rfl rfl ?_
        (try simp only [Act.put, nA, nB, nC])
        refine dM hS 6 rfl rfl rfl ?_
        (try simp only [Act.put, nA, nB, nC])
        refine dP hS 7 rfl rfl ?_
        (try simp only [Act.put, nA, nB, nC])
        refine dP hS 8 rfl rfl ?_
        (try simp only [Act.put, nA, nB, nC])
        refine dA hS 9 rfl rfl rfl ?_
        (try simp only [Act.put, nA, nB, nC])
        refine dA hS 10 rfl rfl rfl ?_
        (try simp only [Act.put, nA, nB, nC])
        refine dr_done (by kernel_rfl) ?_
        go_wp2_with (first | (refine oL ?_; (first | refine sL1 hS rfl rfl rfl ?_ | refine sL2 hS rfl rfl rfl ?_ | refine sL3 hS rfl rfl ?_ | refine sL4 hS rfl rfl ?_ | refine sL5 hS rfl rfl ?_ | refine sL6 hS rfl rfl ?_ | refine sL7 hS rfl rfl ?_)) | (refine oS ?_; ((first | refine sS1 hS rfl rfl rfl ?_ | refine sS2 hS rfl rfl rfl ?_ | refine sS3 hS rfl rfl rfl ?_ | refine sS4 hS rfl rfl rfl ?_ | refine sS5 hS rfl rfl rfl ?_); clear hS; intro w hS)) | ((first | (refine oB ?_; first | refine sB1 hS rfl rfl ?_ | refine sB2 hS rfl rfl ?_) | refine sM1 hS rfl rfl rfl ?_); clear hS; first | ((fail_if_success guard_hyp g1); intro g1 w hS) | ((fail_if_success guard_hyp g2); intro g2 w hS) | ((fail_if_success guard_hyp g3); intro g3 w hS) | ((fail_if_success guard_hyp g4); intro g4 w hS) | fail) | fail)
        go_at_call 64
        have hHB : HistB w gh gs gc A1 p.len.length c1 (srcM p.arcs) cm := ⟨(hS.keep.block gh (lt_of_block HH.out.1.blk) hgh).trans HH.out.1.blk, hS.mapAt, hS.mapAt, HH.out.1.d1, HH.out.1.d2, HH.out.1.d3⟩
        refine (HI.out q (k - 1) S cm w hrk1 ⟨hqn', by simp only; omega, by simp only; omega⟩ hHB (fun b hb => ⟨HH.out.2.1 b hb, Nat.lt_of_lt_of_le (hSl b hb) hS.le⟩) (HH.out.2.2.into (hS.into HH.out.2.1))).mono ?_
        rintro e u1 ⟨L1, cap1, c1', cm1, rfl, hclk1, hri1, hcap1, hm1, hm2, hmm1, hkeep⟩
        have hwl := hS.le
        obtain ⟨N1, hN1⟩ : ∃ N : Nat → Prop, N = fun k => w.heap.size ≤ k ∧ k < u1.heap.size := ⟨_, rfl⟩
        replace hS := hS.usedH hkeep hm1 hm2
        rw [← hN1] at hS
        have hin1 : Into (Orn S w) (fun b => S b ∨ N1 b) u1 u1 := fun b hb hl => ⟨by rcases hb with hb | hb; exact .inl hb; exact .inr (by rw [hN1]; exact ⟨hb, hl⟩), rfl⟩
        replace hri1 := hri1.into hin1
        replace hmm1 := hmm1.into hin1
        have hK1 := hS.keep
        have hl1 := hclk1.len
        have HL1 := Lib.hid hl1
        have hq1 : q < c1'.length := by rw [hl1]; exact hqn'
        clear hl1
        cases hsrc : srcF p.arcs ((q : Int), k) with
        | none =>
          have hsm : srcM p.arcs ((q : Int), k) = none := by simp [srcM, hsrc]
          go_wp2_with (first | (refine st_copyI hS rfl rfl hri1 HL1.out ?_; clear hS; intro w hS) | (refine oL ?_; (first | refine sL1 hS rfl rfl rfl ?_ | refine sL2 hS rfl rfl rfl ?_ | refine sL3 hS rfl rfl ?_ | refine sL4 hS rfl rfl ?_ | refine sL5 hS rfl rfl ?_ | refine sL6 hS rfl rfl ?_ | refine sL7 hS rfl rfl ?_)) | (refine oS ?_; ((first | refine sS1 hS rfl rfl rfl ?_ | refine sS2 hS rfl rfl rfl ?_ | refine sS3 hS rfl rfl rfl ?_ | refine sS4 hS rfl rfl rfl ?_ | refine sS5 hS rfl rfl rfl ?_); clear hS; intro w hS)) | ((first | (refine oB ?_; first | refine sB1 hS rfl rfl ?_ | refine sB2 hS rfl rfl ?_) | refine sM1 hS rfl rfl rfl ?_); clear hS; first | ((fail_if_success guard_hyp g1); intro g1 w hS) | ((fail_if_success guard_hyp g2); intro g2 w hS) | ((fail_if_success guard_hyp g3); intro g3 w hS) | ((fail_if_success guard_hyp g4); intro g4 w hS) | fail) | fail)
          refine dr_start0 []  hS (by kernel_rfl) rfl ?_; clear hS; intro w hS
          refine dM hS 0 rfl rfl rfl ?_
          (try simp only [Act.put, nA, nB, nC])
          refine dP hS 1 rfl rfl ?_
          (try simp only [Act.put, nA, nB, nC])
          refine dP hS 2 rfl rfl ?_
          (try simp only [Act.put, nA, nB, nC])
          first | refine dL1 hS 3 rfl rfl rfl rfl ?_ | refine dL2 hS 3 rfl rfl rfl rfl ?_ | refine dL3 hS 3 rfl rfl rfl ?_ | refine dL4 hS 3 rfl rfl rfl ?_ | refine dL5 hS 3 rfl rfl rfl ?_ | refine dL6 hS 3 rfl rfl rfl ?_ | refine dL7 hS 3 rfl rfl rfl ?_
          (try simp only [Act.put, nA, nB, nC])
          first | refine dL1 hS 4 rfl rfl rfl rfl ?_ | refine dL2 hS 4 rfl rfl rfl rfl ?_ | refine dL3 hS 4 rfl rfl rfl ?_ | refine dL4 hS 4 rfl rfl rfl ?_ | refine dL5 hS 4 rfl rfl rfl ?_ | refine dL6 hS 4 rfl rfl rfl ?_ | refine dL7 hS 4 rfl rfl rfl ?_
          (try simp only [Act.put, nA, nB, nC])
          first | refine dK1 hS 5 rfl rfl rfl rfl ?_ | refine dK2 hS 5 rfl rfl rfl rfl ?_ | refine dK3 hS 5 rfl rfl rfl rfl ?_
          (try simp only [Act.put, nA, nB, nC])
          refine dM hS 6 rfl rfl rfl ?_
          (try simp only [Act.put, nA, nB, nC])
          refine dP hS 7 rfl rfl ?_
          (try simp only [Act.put, nA, nB, nC])
          refine dP hS 8 rfl rfl ?_
          (try simp only [Act.put, nA, nB, nC])
          refine dr_one 9 (by kernel_rfl) rfl ?_
          (refine sN1 hS rfl ?_; clear hS; first | ((fail_if_success guard_hyp g1); intro g1 w hS) | ((fail_if_success guard_hyp g2); intro g2 w hS) | ((fail_if_success guard_hyp g3); intro g3 w hS) | ((fail_if_success guard_hyp g4); intro g4 w hS) | fail)
          (try simp only [Act.put, nA, nB, nC])
          refine dr_end hS ?_
          refine dr_one 10 (by kernel_rfl) rfl ?_
          ((first | refine sS1 hS rfl rfl rfl ?_ | refine sS2 hS rfl rfl rfl ?_ | refine sS3 hS rfl rfl rfl ?_ | refine sS4 hS rfl rfl rfl ?_ | refine sS5 hS rfl rfl rfl ?_); clear hS; intro w hS)
          (try simp only [Act.put, nA, nB, nC])
          refine dr_end hS ?_
          refine dA hS 11 rfl rfl rfl ?_
          (try simp only [Act.put, nA, nB, nC])
          refine dr_done (by kernel_rfl) ?_
          go_wp2_with (first | (refine oL ?_; (first | refine sL1 hS rfl rfl rfl ?_ | refine sL2 hS rfl rfl rfl ?_ | refine sL3 hS rfl rfl ?_ | refine sL4 hS rfl rfl ?_ | refine sL5 hS rfl rfl ?_ | refine sL6 hS rfl rfl ?_ | refine sL7 hS rfl rfl ?_)) | (refine oS ?_; ((first | refine sS1 hS rfl rfl rfl ?_ | refine sS2 hS rfl rfl rfl ?_ | refine sS3 hS rfl rfl rfl ?_ | refine sS4 hS rfl rfl rfl ?_ | refine sS5 hS rfl rfl rfl ?_); clear hS; intro w hS)) | ((first | (refine oB ?_; first | refine sB1 hS rfl rfl ?_ | refine sB2 hS rfl rfl ?_) | refine sM1 hS rfl rfl rfl ?_); clear hS; first | ((fail_if_success guard_hyp g1); intro g1 w hS) | ((fail_if_success guard_hyp g2); intro g2 w hS) | ((fail_if_success guard_hyp g3); intro g3 w hS) | ((fail_if_success guard_hyp g4); intro g4 w hS) | fail) | fail)
          refine dr_start1 [] 2 hS (by kernel_rfl) rfl ?_; clear hS; intro w hS
          refine dM hS 0 rfl rfl rfl ?_
          (try simp only [Act.put, nA, nB, nC])
          refine dP hS 1 rfl rfl ?_
          (try simp only [Act.put, nA, nB, nC])
          refine dP hS 2 rfl rfl ?_
          (try simp only [Act.put, nA, nB, nC])
          first | refine dL1 hS 3 rfl rfl rfl rfl ?_ | refine dL2 hS 3 rfl rfl rfl rfl ?_ | refine dL3 hS 3 rfl rfl rfl ?_ | refine dL4 hS 3 rfl rfl rfl ?_ | refine dL5 hS 3 rfl rfl rfl ?_ | refine dL6 hS 3 rfl rfl rfl ?_ | refine dL7 hS 3 rfl rfl rfl ?_
          (try simp only [Act.put, nA, nB, nC])
          first | refine dL1 hS 4 rfl rfl rfl rfl ?_ | refine dL2 hS 4 rfl rfl rfl rfl ?_ | refine dL3 hS 4 rfl rfl rfl ?_ | refine dL4 hS 4 rfl rfl rfl ?_ | refine dL5 hS 4 rfl rfl rfl ?_ | refine dL6 hS 4 rfl rfl rfl ?_ | refine dL7 hS 4 rfl rfl rfl ?_
          (try simp only [Act.put, nA, nB, nC])
          refine dM hS 5 rfl rfl rfl ?_
          (try simp only [Act.put, nA, nB, nC])
          refine dr_one 6 (by kernel_rfl) rfl ?_
          (refine sU1 hS rfl rfl rfl rfl ?_; clear hS; intro w hS)
          (try simp only [Act.put, nA, nB, nC])
          refine dr_end hS ?_
          refine dr_done (by kernel_rfl) ?_
          go_wp2_with (first | (refine oL ?_; (first | refine sL1 hS rfl rfl rfl ?_ | refine sL2 hS rfl rfl rfl ?_ | refine sL3 hS rfl rfl ?_ | refine sL4 hS rfl rfl ?_ | refine sL5 hS rfl rfl ?_ | refine sL6 hS rfl rfl ?_ | refine sL7 hS rfl rfl ?_)) | (refine oS ?_; ((first | refine sS1 hS rfl rfl rfl ?_ | refine sS2 hS rfl rfl rfl ?_ | refine sS3 hS rfl rfl rfl ?_ | refine sS4 hS rfl rfl rfl ?_ | refine sS5 hS rfl rfl rfl ?_); clear hS; intro w hS)) | ((first | (refine oB ?_; first | refine sB1 hS rfl rfl ?_ | refine sB2 hS rfl rfl ?_) | refine sM1 hS rfl rfl rfl ?_); clear hS; first | ((fail_if_success guard_hyp g1); intro g1 w hS) | ((fail_if_success guard_hyp g2); intro g2 w hS) | ((fail_if_success guard_hyp g3); intro g3 w hS) | ((fail_if_success guard_hyp g4); intro g4 w hS) | fail) | fail)
          go_ret
          have hstep := clk_step hg hqn' hk1 hkl hclk1 (srcF_none hsrc hk0)
          have hri : RI (Orn S w0) w (some ⟨g2, 0, none⟩) (c1'.set q k) := hS.riH
          have hcap : capOk p.len.length p.len.length := ⟨Nat.le_refl _, by omega⟩
          have hi := hS.intoN (N := N1) (u := u1) hSl HH.out.2.1 hK1
          have hi2 : Into (fun b => S b ∨ N1 b) (Orn S w0) u1 w := hi.widen (fun b hb => hb.imp id (fun h => by rw [hN1] at h; omega))
          exact ⟨some ⟨g2, 0, none⟩, p.len.length, _, _, rfl, hstep, hri, hcap, hS.mapAt, hS.mapAt, (hmm1.into hi2).put hstep hri hcap, hS.keep⟩
        | some s =>
          obtain ⟨ar, har, hto, hat, _, rfl⟩ := srcF_some hsrc
          have hsm : srcM p.arcs ((q : Int), k) = some (.agg #[.int .i64 (ar.fr : Int), .int .i64 ar.ix]) := by simp [srcM, hsrc]
          have HA := Lib.hid (And.intro har (And.intro hto hat))
          clear hto hat
          have hoa := hg.arc ar har
          have hrk2 : rk ar.fr ar.ix < f := by have := hr.2 ar har (by rw [HA.out.2.2]; omega); rw [HA.out.2.1, HA.out.2.2] at this; omega
          go_wp2_with (first | (refine st_copyI hS rfl rfl hri1 HL1.out ?_; clear hS; intro w hS) | (refine oL ?_; (first | refine sL1 hS rfl rfl rfl ?_ | refine sL2 hS rfl rfl rfl ?_ | refine sL3 hS rfl rfl ?_ | refine sL4 hS rfl rfl ?_ | refine sL5 hS rfl rfl ?_ | refine sL6 hS rfl rfl ?_ | refine sL7 hS rfl rfl ?_)) | (refine oS ?_; ((first | refine sS1 hS rfl rfl rfl ?_ | refine sS2 hS rfl rfl rfl ?_ | refine sS3 hS rfl rfl rfl ?_ | refine sS4 hS rfl rfl rfl ?_ | refine sS5 hS rfl rfl rfl ?_); clear hS; intro w hS)) | ((first | (refine oB ?_; first | refine sB1 hS rfl rfl ?_ | refine sB2 hS rfl rfl ?_) | refine sM1 hS rfl rfl rfl ?_); clear hS; first | ((fail_if_success guard_hyp g1); intro g1 w hS) | ((fail_if_success guard_hyp g2); intro g2 w hS) | ((fail_if_success guard_hyp g3); intro g3 w hS) | ((fail_if_success guard_hyp g4); intro g4 w hS) | fail) | fail)
          refine dr_start0 []  hS (by kernel_rfl) rfl ?_; clear hS; intro w hS
          refine dM hS 0 rfl rfl rfl ?_
          (try simp only [Act.put, nA, nB, nC])
          refine dP hS 1 rfl rfl ?_
          (try simp only [Act.put, nA, nB, nC])
          refine dP hS 2 rfl rfl ?_
          (try simp only [Act.put, nA, nB, nC])
          first | refine dL1 hS 3 rfl rfl rfl rfl ?_ | refine dL2 hS 3 rfl rfl rfl rfl ?_ | refine dL3 hS 3 rfl rfl rfl ?_ | refine dL4 hS 3 rfl rfl rfl ?_ | refine dL5 hS 3 rfl rfl rfl ?_ | refine dL6 hS 3 rfl rfl rfl ?_ | refine dL7 hS 3 rfl rfl rfl ?_
          (try simp only [Act.put, nA, nB, nC])
          first | refine dL1 hS 4 rfl rfl rfl rfl ?_ | refine dL2 hS 4 rfl rfl rfl rfl ?_ | refine dL3 hS 4 rfl rfl rfl ?_ | refine dL4 hS 4 rfl rfl rfl ?_ | refine dL5 hS 4 rfl rfl rfl ?_ | refine dL6 hS 4 rfl rfl rfl ?_ | refine dL7 hS 4 rfl rfl rfl ?_
          (try simp only [Act.put, nA, nB, nC])
          first | refine dK1 hS 5 rfl rfl rfl rfl ?_ | refine dK2 hS 5 rfl rfl rfl rfl ?_ | refine dK3 hS 5 rfl rfl rfl rfl ?_
          (try simp only [Act.put, nA, nB, nC])
          refine dM hS 6 rfl rfl rfl ?_
          (try simp only [Act.put, nA, nB, nC])
          refine dP hS 7 rfl rfl ?_
          (try simp only [Act.put, nA, nB, nC])
          refine dP hS 8 rfl rfl ?_
          (try simp only [Act.put, nA, nB, nC])
          refine dr_one 9 (by kernel_rfl) rfl ?_
          (refine sN1 hS rfl ?_; clear hS; first | ((fail_if_success guard_hyp g1); intro g1 w hS) | ((fail_if_success guard_hyp g2); intro g2 w hS) | ((fail_if_success guard_hyp g3); intro g3 w hS) | ((fail_if_success guard_hyp g4); intro g4 w hS) | fail)
          (try simp only [Act.put, nA, nB, nC])
          refine dr_end hS ?_
          refine dr_one 10 (by kernel_rfl) rfl ?_
          ((first | refine sS1 hS rfl rfl rfl ?_ | refine sS2 hS rfl rfl rfl ?_ | refine sS3 hS rfl rfl rfl ?_ | refine sS4 hS rfl rfl rfl ?_ | refine sS5 hS rfl rfl rfl ?_); clear hS; intro w hS)
          (try simp only [Act.put, nA, nB, nC])
          refine dr_end hS ?_
          refine dA hS 11 rfl rfl rfl ?_
          (try simp only [Act.put, nA, nB, nC])
          refine dr_done (by kernel_rfl) ?_
          go_wp2_with (first | (refine oL ?_; (first | refine sL1 hS rfl rfl rfl ?_ | refine sL2 hS rfl rfl rfl ?_ | refine sL3 hS rfl rfl ?_ | refine sL4 hS rfl rfl ?_ | refine sL5 hS rfl rfl ?_ | refine sL6 hS rfl rfl ?_ | refine sL7 hS rfl rfl ?_)) | (refine oS ?_; ((first | refine sS1 hS rfl rfl rfl ?_ | refine sS2 hS rfl rfl rfl ?_ | refine sS3 hS rfl rfl rfl ?_ | refine sS4 hS rfl rfl rfl ?_ | refine sS5 hS rfl rfl rfl ?_); clear hS; intro w hS)) | ((first | (refine oB ?_; first | refine sB1 hS rfl rfl ?_ | refine sB2 hS rfl rfl ?_) | refine sM1 hS rfl rfl rfl ?_); clear hS; first | ((fail_if_success guard_hyp g1); intro g1 w hS) | ((fail_if_success guard_hyp g2); intro g2 w hS) | ((fail_if_success guard_hyp g3); intro g3 w hS) | ((fail_if_success guard_hyp g4); intro g4 w hS) | fail) | fail)
          go_at_call 64
          have hi1 := hS.intoN (N := N1) (u := u1) hSl HH.out.2.1 hK1
          have hHB2 : HistB w gh gs gc A1 p.len.length c1 (srcM p.arcs) cm1 := ⟨(hS.keep.block gh (lt_of_block HH.out.1.blk) hgh).trans HH.out.1.blk, hS.mapAt, hS.mapAt, HH.out.1.d1, HH.out.1.d2, HH.out.1.d3⟩
          have hNn1 : ∀ b, N1 b → w0.heap.size ≤ b := fun b hb => by rw [hN1] at hb; omega
          have hNl1 : ∀ b, N1 b → b < w.heap.size := fun b hb => (froz N1 u1 : Chunk w0 (fun k => k = gc ∨ k = gs)).lt (hS.all _ (by simp)) hb
          have hlgc : gc < w0.heap.size := by obtain ⟨_, _, _, h, _⟩ := HH.out.1.clk; exact lt_of_block h
          have hlgs : gs < w0.heap.size := by obtain ⟨_, _, _, h, _⟩ := HH.out.1.src; exact lt_of_block h
          refine (HI.out ar.fr ar.ix (fun b => S b ∨ N1 b) cm1 w hrk2 ⟨hoa.fr, hoa.ix0, hoa.ix1⟩ hHB2 (fun b hb => ?_) (hmm1.into hi1)).mono ?_
          · rcases hb with hb | hb
            · exact ⟨HH.out.2.1 b hb, Nat.lt_of_lt_of_le (hSl b hb) hS.le⟩
            · exact ⟨fun h => by have := hNn1 b hb; omega, hNl1 b hb⟩
          rintro e u2 ⟨L2, cap2, c2', cm2, rfl, hclk2, hri2, hcap2, hm3, hm4, hmm2, hkeep2⟩
          have hwl2 := hS.le
          obtain ⟨N2, hN2⟩ : ∃ N : Nat → Prop, N = fun k => w.heap.size ≤ k ∧ k < u2.heap.size := ⟨_, rfl⟩
          replace hS := hS.usedH hkeep2 hm3 hm4
          rw [← hN2] at hS
          have hin2 : Into (Orn (fun b => S b ∨ N1 b) w) (fun b => (S b ∨ N1 b) ∨ N2 b) u2 u2 := fun b hb hl => ⟨by rcases hb with hb | hb; exact .inl hb; exact .inr (by rw [hN2]; exact ⟨hb, hl⟩), rfl⟩
          replace hri2 := hri2.into hin2
          replace hmm2 := hmm2.into hin2
          have hK2 := hS.keep
          have HF := Lib.hid (hS.frozAt (N := N1) (u := u1))
          have HL2 := Lib.hid hclk2.len
          have hoff : ∀ b, (S b ∨ N1 b) ∨ N2 b → b ≠ g2 := by
            have hg2 : w0.heap.size ≤ g2 := hS.newH (c := row (.slice (some ⟨g2, 0, none⟩) p.len.length p.len.length) 3 1 p.len.length (ints c1')) g2 rfl
            intro b hb
            rcases hb with (hb | hb) | hb
            · have := hSl b hb; omega
            · exact hS.offRow (c := froz N1 u1) b hb
            · exact hS.offRow (c := froz N2 u2) b hb
          have hqz : q < (List.zipWith max c1' c2').length := by simp [HL1.out, HL2.out, hqn']
          go_wp2_with (first | (go_at_call 67; refine (raise_st hS HL1.out hri2 hoff HL2.out (by omega)).mono ?_; rintro e w ⟨rfl, hS⟩) | (refine oL ?_; (first | refine sL1 hS rfl rfl rfl ?_ | refine sL2 hS rfl rfl rfl ?_ | refine sL3 hS rfl rfl ?_ | refine sL4 hS rfl rfl ?_ | refine sL5 hS rfl rfl ?_ | refine sL6 hS rfl rfl ?_ | refine sL7 hS rfl rfl ?_)) | (refine oS ?_; ((first | refine sS1 hS rfl rfl rfl ?_ | refine sS2 hS rfl rfl rfl ?_ | refine sS3 hS rfl rfl rfl ?_ | refine sS4 hS rfl rfl rfl ?_ | refine sS5 hS rfl rfl rfl ?_); clear hS; intro w hS)) | ((first | (refine oB ?_; first | refine sB1 hS rfl rfl ?_ | refine sB2 hS rfl rfl ?_) | refine sM1 hS rfl rfl rfl ?_); clear hS; first | ((fail_if_success guard_hyp g1); intro g1 w hS) | ((fail_if_success guard_hyp g2); intro g2 w hS) | ((fail_if_success guard_hyp g3); intro g3 w hS) | ((fail_if_success guard_hyp g4); intro g4 w hS) | fail) | fail)
          refine dr_start1 [] 1 hS (by kernel_rfl) rfl ?_; clear hS; intro w hS
          refine dM hS 0 rfl rfl rfl ?_
          (try simp only [Act.put, nA, nB, nC])
          refine dP hS 1 rfl rfl ?_
          (try simp only [Act.put, nA, nB, nC])
          refine dP hS 2 rfl rfl ?_
          (try simp only [Act.put, nA, nB, nC])
          first | refine dL1 hS 3 rfl rfl rfl rfl ?_ | refine dL2 hS 3 rfl rfl rfl rfl ?_ | refine dL3 hS 3 rfl rfl rfl ?_ | refine dL4 hS 3 rfl rfl rfl ?_ | refine dL5 hS 3 rfl rfl rfl ?_ | refine dL6 hS 3 rfl rfl rfl ?_ | refine dL7 hS 3 rfl rfl rfl ?_
          (try simp only [Act.put, nA, nB, nC])
          first | refine dL1 hS 4 rfl rfl rfl rfl ?_ | refine dL2 hS 4 rfl rfl rfl rfl ?_ | refine dL3 hS 4 rfl rfl rfl ?_ | refine dL4 hS 4 rfl rfl rfl ?_ | refine dL5 hS 4 rfl rfl rfl ?_ | refine dL6 hS 4 rfl rfl rfl ?_ | refine dL7 hS 4 rfl rfl rfl ?_
          (try simp only [Act.put, nA, nB, nC])
          refine dM hS 5 rfl rfl rfl ?_
          (try simp only [Act.put, nA, nB, nC])
          refine dr_one 6 (by kernel_rfl) rfl ?_
          (refine sU1 hS rfl rfl rfl rfl ?_; clear hS; intro w hS)
          (try simp only [Act.put, nA, nB, nC])
          refine dr_end hS ?_
          refine dr_done (by kernel_rfl) ?_
          go_wp2_with (first | (refine oL ?_; (first | refine sL1 hS rfl rfl rfl ?_ | refine sL2 hS rfl rfl rfl ?_ | refine sL3 hS rfl rfl ?_ | refine sL4 hS rfl rfl ?_ | refine sL5 hS rfl rfl ?_ | refine sL6 hS rfl rfl ?_ | refine sL7 hS rfl rfl ?_)) | (refine oS ?_; ((first | refine sS1 hS rfl rfl rfl ?_ | refine sS2 hS rfl rfl rfl ?_ | refine sS3 hS rfl rfl rfl ?_ | refine sS4 hS rfl rfl rfl ?_ | refine sS5 hS rfl rfl rfl ?_); clear hS; intro w hS)) | ((first | (refine oB ?_; first | refine sB1 hS rfl rfl ?_ | refine sB2 hS rfl rfl ?_) | refine sM1 hS rfl rfl rfl ?_); clear hS; first | ((fail_if_success guard_hyp g1); intro g1 w hS) | ((fail_if_success guard_hyp g2); intro g2 w hS) | ((fail_if_success guard_hyp g3); intro g3 w hS) | ((fail_if_success guard_hyp g4); intro g4 w hS) | fail) | fail)
          go_ret
          have hstep := clk_recv hg hr HA.out.1 HA.out.2.1 HA.out.2.2 hk1 hclk1 hclk2
          have hri : RI (Orn S w0) w (some ⟨g2, 0, none⟩) ((List.zipWith max c1' c2').set q k) := hS.riH
          have hcap : capOk p.len.length p.len.length := ⟨Nat.le_refl _, by omega⟩
          have hi := hS.intoN2 (N1 := N1) (u1 := u1) (N2 := N2) (u2 := u2) HF.out hSl HH.out.2.1 hK2
          have hi2 : Into (fun b => (S b ∨ N1 b) ∨ N2 b) (Orn S w0) u2 w := hi.widen (fun b hb => by
            rcases hb with (hb | hb) | hb
            · exact .inl hb
            · exact .inr (hNn1 b hb)
            · exact .inr (by rw [hN2] at hb; omega))
          exact ⟨some ⟨g2, 0, none⟩, p.len.length, _, _, rfl, hstep, hri, hcap, hS.mapAt, hS.mapAt, (hmm2.into hi2).put hstep hri hcap, hS.keep⟩
end Go.Proofs.Ytkflmichekpfbaa
