/- A family of rows that stands for lists of processes; a row becomes shorter. No condition. -/
import Derived.Test.YtmjmdncdmmcmaaaFam2
import Derived.Test.YtmjmdncdmmcmaaaTwV
namespace Go.Proofs.Ytmjmdncdmmcmaaa
open Go.RowKit Tph
set_option linter.unusedVariables false
set_option linter.unusedSimpArgs false
set_option linter.unusedSectionVars false

/-- the rows rs hold the lists ls -/
structure FamN (rs : List RwD) (ls : List (List Nat)) : Prop where
  n : rs.length = ls.length
  k : ∀ i, i < ls.length → ∃ L c, rs[i]? = some (.slice L (chR ls i).length c, (chR ls i).length, ints (nats (chR ls i)))
section
variable {rs : List RwD} {ls : List (List Nat)}
theorem chR_of {ls : List (List Nat)} {i : Nat} (h : i < ls.length) : ls[i] = chR ls i := by simp [chR, h]
theorem FamN.nil : FamN [] [] := ⟨rfl, fun i h => absurd h (by simp)⟩
theorem FamN.snoc (h : FamN rs ls) (L : Option Addr) (c : Nat) (l : List Nat) : FamN (rs ++ [(.slice L l.length c, l.length, ints (nats l))]) (ls ++ [l]) := by
  refine ⟨by simp [h.n], fun i hi => ?_⟩
  rw [← chR_of hi]
  by_cases e : i < ls.length
  · obtain ⟨L', c', h1⟩ := h.k i e
    refine ⟨L', c', ?_⟩
    rw [List.getElem?_append_left (by rw [h.n]; exact e), List.getElem_append_left e, chR_of e]
    exact h1
  · have e2 : i = ls.length := by simp at hi; omega
    subst e2
    refine ⟨L, c, ?_⟩
    rw [List.getElem?_append_right (by rw [h.n]; exact Nat.le_refl _), h.n]
    simp
theorem FamN.set (h : FamN rs ls) (k : Nat) (L : Option Addr) (c : Nat) (l : List Nat) : FamN (rs.set k (.slice L l.length c, l.length, ints (nats l))) (ls.set k l) := by
  refine ⟨by simp [h.n], fun i hi => ?_⟩
  have hi' : i < ls.length := by simpa using hi
  rw [← chR_of hi]
  by_cases e : k = i
  · subst e
    refine ⟨L, c, ?_⟩
    rw [List.getElem?_set_self (by rw [h.n]; exact hi')]
    simp
  · obtain ⟨L', c', h1⟩ := h.k i hi'
    refine ⟨L', c', ?_⟩
    rw [List.getElem?_set_ne e, List.getElem_set_ne e, chR_of hi']
    exact h1
theorem FamN.at_ (h : FamN rs ls) {k : Nat} (hk : k < ls.length) : ∃ L c, rs[k]? = some (.slice L (chR ls k).length c, (chR ls k).length, ints (nats (chR ls k))) ∧ (rs.map (·.1))[k]? = some (.slice L (chR ls k).length c) := by
  obtain ⟨L, c, h1⟩ := h.k k hk
  exact ⟨L, c, h1, by rw [List.getElem?_map, h1]; rfl⟩
theorem FamN.hv (h : FamN rs ls) : (rs.map (·.1)).length = ls.length := by rw [List.length_map]; exact h.n
/-- the slices of a family, frozen -/
theorem FamN.res {T : Nat → Prop} {w : World} (h : FamN rs ls) (hr : ∀ r ∈ rs, ∀ A k c, r.1 = .slice A k c → capOk k c ∧ RV T w A r.2.2) : Rw2 (ReV T w) (rs.map (·.1)) (ls.map nats) := by
  refine ⟨by rw [h.hv, List.length_map], fun i h1 h2 => ?_⟩
  have h2' : i < ls.length := by simpa using h2
  obtain ⟨L, c, e⟩ := h.k i h2'
  obtain ⟨hi, e⟩ := List.getElem?_eq_some_iff.1 e
  have h3 := hr _ (List.getElem_mem hi) L (chR ls i).length c (by rw [e])
  rw [e] at h3
  rw [List.getElem_map, List.getElem_map, chR_of h2']
  exact ⟨L, c, by rw [e, List.length_map], by rw [List.length_map]; exact h3.1.1, h3.1.2, h3.2⟩
end
theorem take_chR {ls : List (List Nat)} {k : Nat} (hk : k < ls.length) : ls.take (k + 1) = ls.take k ++ [chR ls k] := by rw [List.take_succ_eq_append_getElem hk, chR_of hk]
theorem fst_setN (rs : List RwD) (k : Nat) (x : RwD) : (rs.set k x).map (·.1) = (rs.map (·.1)).set k x.1 := List.map_set ..
theorem set_sameN {rs : List RwD} {k : Nat} {x : RwD} (h : rs[k]? = some x) : (rs.set k nilR2).set k x = rs := by
  obtain ⟨h1, h2⟩ := List.getElem?_eq_some_iff.1 h
  rw [List.set_set, ← h2, List.set_getElem_self]
section
variable {w0 w : World} {S : Nat → Prop} {cs : List (Chunk w0 (fun k => S k ∧ k < w0.heap.size))}
theorem St.famFN {e : TypeId} {sz : Nat} {rs : List RwD} (h : St w0 (fun k => S k ∧ k < w0.heap.size) cs w) (hm : fam2 e sz rs ∈ cs) : ∀ r ∈ rs, ∀ A k c, r.1 = .slice A k c → capOk k c ∧ RV (Orn S w0) w A r.2.2 := fun r hr A k c hv => by
  have ho := (h.all _ hm).1 r hr
  rw [RwD.ok, hv] at ho
  refine ⟨?_, (own_rv ho).sub (fun b hb => ?_)⟩
  · obtain ⟨A', c', hv', h1, h2⟩ := own_form ho
    injection hv' with h3 h4 h5
    subst h5
    rw [h4]
    exact ⟨h1, h2⟩
  · rcases h.new _ hm b ⟨r, hr, by rw [hv]; exact hb⟩ with h1 | h1
    · exact .inr h1
    · exact .inl h1.1
end
/-- a row becomes shorter: s[:k] -/
theorem own_shrink {w : World} {e : TypeId} {A : Option Addr} {n c sz k : Nat} {vs : List Value} (ho : w.ownsRow 0 e sz (.slice A n c) n vs) (hk : k ≤ n) : w.ownsRow 0 e sz (.slice A k c) k (vs.take (k * sz)) := by
  have hle : k * sz ≤ n * sz := Nat.mul_le_mul_right _ hk
  refine ⟨by rw [List.length_take, ho.1]; omega, ?_⟩
  rcases ho.2 with ⟨hv, h0⟩ | ⟨g, cap, cur, hv, hb, hh, hc, hm, hs, ht⟩
  · injection hv with h1 h2 h3
    subst h1 h3
    have : k = 0 := by omega
    subst this
    exact .inl ⟨rfl, rfl⟩
  · injection hv with h1 h2 h3
    subst h1 h3
    refine .inr ⟨g, c, cur, rfl, hb, hh, by omega, hm, hs, ?_⟩
    rw [← ht, List.take_take, Nat.min_eq_left hle]
theorem St.shrink {w0 w : World} {M : Nat → Prop} {cs : List (Chunk w0 M)} {f : Chunk w0 M → List (Chunk w0 M)} {e : TypeId} {A : Option Addr} {n c sz : Nat} {vs : List Value} (h : St w0 M cs w) (k : Nat) [hp : PickR (.slice A n c) cs e sz n vs f] (hk : k ≤ n) : St w0 M (f (row (.slice A k c) e sz k (vs.take (k * sz)))) w := by
  have h2 : St w0 M (f (row (.slice A n c) e sz n vs)) w := hp.eq ▸ h
  exact h2.updG hp.gap (Keep.refl _ _) (own_shrink (h2.at_ hp.gap) hk) (fun j hj => .inl (by cases A <;> exact hj))
end Go.Proofs.Ytmjmdncdmmcmaaa

/- The reference's two-phase machine: decide, answer, without. Conditions: the machine is a call's own, its lists are short. -/
namespace Go.Proofs.Ytmjmdncdmmcmaaa
open Go.RowKit Tph
set_option linter.unusedVariables false
set_option linter.unusedSimpArgs false
set_option linter.unusedSectionVars false

set_option maxRecDepth 100000 in
set_option maxHeartbeats 6400000 in
theorem rwithout_any {S : Nat → Prop} (A : Option Addr) (c n : Nat) (l : List Nat) (x : Nat) (w0 : World) (hx : RI S w0 A (nats l)) (hn : l.length = n) (hl : n ≤ 1000) :
    Calls Try.prog 70 #[.slice A n c, .int .i64 (x : Int)] w0 (RetRow w0 3 1 (l.filter (fun y => y != x)).length (ints (nats (l.filter (fun y => y != x))))) := by
  have hS := St.start w0 NoM
  subst hn
  go_enter Try.func70, Try.ntmps70
  go_wp2_with (fail)
  replace hS := hS.addNil 3 1
  go_loopw [5, 6] (fun s5 s10 wr => ∃ (j m c5 : Nat) (L : Option Addr) (k : List Nat), j ≤ l.length ∧ m ≤ j ∧ s10 = .int .i64 j ∧ s5 = .slice L m c5 ∧ Hid (k = (l.take j).filter (fun y => y != x) ∧ k.length = m) ∧ St w0 NoM [row (.slice L m c5) 3 1 m (ints (nats k))] wr) (fun _ s10 _ => l.length - (intOf s10).toNat)
  case atStart => exact ⟨0, 0, 0, none, [], by omega, by omega, rfl, rfl, Lib.hid ⟨rfl, rfl⟩, hS⟩
  case round =>
    clear hS
    obtain ⟨j, m, c5, L, k, hj, hm, rfl, rfl, HK, hS⟩ := hrel
    by_cases hjl : j < l.length
    · have hjl' : (j : Int) < l.length := by omega
      obtain ⟨b, o, rfl, _, hc⟩ := hx.atNS (k := j) (by rw [List.length_map]; exact hjl)
      rw [show nth (nats l) j = ((l[j] : Nat) : Int) by rw [nth_eq (by rw [List.length_map]; exact hjl)]; simp [nats]] at hc
      have HTK := Lib.hid (show (l.take (j + 1)).filter (fun y => y != x) = k ++ [l[j]].filter (fun y => y != x) by rw [List.take_succ_eq_append_getElem hjl, List.filter_append, HK.out.1])
      generalize l[j] = y at *
      by_cases he : y = x
      · have e1 : ((y : Int) != (x : Int)) = false := by simp [he]
        have HN := Lib.hid (show (l.take (j + 1)).filter (fun y => y != x) = k by rw [HTK.out]; simp [he])
        clear he HTK
        go_wp2_with (((refine oL ?_; ((refine sL4 hS rfl rfl ?_)))))
        go_roundw
        case measure => simp [intOf]; try omega
        exact ⟨j + 1, m, c5, L, k, by omega, by omega, by go_num, rfl, Lib.hid ⟨HN.out.symm, HK.out.2⟩, hS⟩
      · have e1 : ((y : Int) != (x : Int)) = true := by simp; omega
        have HN := Lib.hid (show (l.take (j + 1)).filter (fun y => y != x) = k ++ [y] by rw [HTK.out]; simp [he])
        clear he HTK
        go_wp2_with (first | (refine oL ?_; ((refine sL4 hS rfl rfl ?_))) | (refine oP ?_; (((refine sP2 hS rfl rfl rfl ?_)); clear hS; (((fail_if_success guard_hyp L1); intro L1 cl1 w hL1 hM1 hS)))) | ((((refine oC ?_; (refine sC1 hS rfl rfl ?_)))); clear hS; (((fail_if_success guard_hyp g1); intro g1 w hS))))
        go_roundw
        case measure => simp [intOf]; try omega
        refine ⟨j + 1, m + 1, cl1, L1, k ++ [y], by omega, by omega, by go_num, rfl, Lib.hid ⟨HN.out.symm, by rw [List.length_append, HK.out.2]; rfl⟩, ?_⟩
        have e : ints (nats (k ++ [y])) = ints (nats k) ++ [.int .i64 (y : Int)] := by simp [ints, nats]
        rw [e]
        exact hS.re
    · have hjl' : ¬ (j : Int) < l.length := by omega
      have HE := Lib.hid (show l.filter (fun y => y != x) = k by have := HK.out.1; rw [List.take_of_length_le (by omega)] at this; exact this.symm)
      have hkl := HK.out.2
      go_wp2_with (fail)
      go_ret
      rw [HE.out, hkl]
      have h9 := hS.ret (L := L) (c := c5) (k := m) rfl
      simp only [ints, nats, List.map_map] at h9 ⊢
      exact h9
set_option maxRecDepth 100000 in
set_option maxHeartbeats 6400000 in
theorem rdecide_st {w0 w u : World} {M T : Nat → Prop} {cs : List (Chunk w0 M)} (gm : Nat) (A1 : Option Addr) (c1 : Nat) (A2 : Option Addr) (c2 : Nat) (A3 : Option Addr) (c3 : Nat) (p : Pat) (root n : Nat) (gu ku gp kp gt kt ga ka gr kr gc kc gd kd : Nat) (par aw dec : List Int) (unw tent ref : List Bool) (rs : List RwD) (fl : List Nt) (FA : Option Addr) (nf fc : Nat) (q : Nat) (d : Int) (l : List Nat) (B : Option Addr) (cB : Nat) (hS : St w0 M (froz T u :: blk gm [.slice A1 p.len.length c1, .slice A2 p.ck.length c2, .slice A3 p.arcs.length c3, .int .i64 (root : Int), .slice (some ⟨gu, 0, none⟩) n ku, .slice (some ⟨gp, 0, none⟩) n kp, .slice (some ⟨gt, 0, none⟩) n kt, .slice (some ⟨ga, 0, none⟩) n ka, .slice (some ⟨gr, 0, none⟩) n kr, .slice (some ⟨gc, 0, none⟩) n kc, .slice (some ⟨gd, 0, none⟩) n kd, .slice FA nf fc] 55 :: row (.slice (some ⟨gp, 0, none⟩) n kp) 3 1 n (ints par) :: row (.slice (some ⟨gt, 0, none⟩) n kt) 4 1 n (bools tent) :: row (.slice (some ⟨ga, 0, none⟩) n ka) 3 1 n (ints aw) :: row (.slice (some ⟨gr, 0, none⟩) n kr) 4 1 n (bools ref) :: row (.slice (some ⟨gc, 0, none⟩) n kc) 25 1 n (rs.map (·.1)) :: row (.slice (some ⟨gd, 0, none⟩) n kd) 3 1 n (ints dec) :: row (.slice FA nf fc) 97 3 nf (ntc fl) :: row (.slice (some ⟨gu, 0, none⟩) n ku) 4 1 n (bools unw) :: fam2 3 1 rs :: cs) w) (hb : nf ≤ 2000) (hq : q < n) (ht : tent.length = n) (hd : dec.length = n) (hrs : rs[q]? = some (.slice B l.length cB, l.length, ints (nats l))) (hl : l.length ≤ 5) (hd2 : d = 1 ∨ d = 2) :
    Calls Try.prog 72 #[.pointer (some ⟨gm, 0, none⟩), .int .i64 (q : Int), .int .i64 d] w fun e w' => e = .returned (.tuple #[]) ∧ ∃ (F2 : Option Addr) (k2 : Nat), St w0 M (froz T u :: blk gm [.slice A1 p.len.length c1, .slice A2 p.ck.length c2, .slice A3 p.arcs.length c3, .int .i64 (root : Int), .slice (some ⟨gu, 0, none⟩) n ku, .slice (some ⟨gp, 0, none⟩) n kp, .slice (some ⟨gt, 0, none⟩) n kt, .slice (some ⟨ga, 0, none⟩) n ka, .slice (some ⟨gr, 0, none⟩) n kr, .slice (some ⟨gc, 0, none⟩) n kc, .slice (some ⟨gd, 0, none⟩) n kd, .slice F2 (nf + l.length) k2] 55 :: row (.slice (some ⟨gp, 0, none⟩) n kp) 3 1 n (ints par) :: row (.slice (some ⟨gt, 0, none⟩) n kt) 4 1 n (bools (tent.set q false)) :: row (.slice (some ⟨ga, 0, none⟩) n ka) 3 1 n (ints aw) :: row (.slice (some ⟨gr, 0, none⟩) n kr) 4 1 n (bools ref) :: row (.slice (some ⟨gc, 0, none⟩) n kc) 25 1 n (rs.map (·.1)) :: row (.slice (some ⟨gd, 0, none⟩) n kd) 3 1 n (ints (dec.set q d)) :: row (.slice F2 (nf + l.length) k2) 97 3 (nf + l.length) (ntc (fl ++ l.map (dNote d q))) :: row (.slice (some ⟨gu, 0, none⟩) n ku) 4 1 n (bools unw) :: fam2 3 1 rs :: cs) w' := by
  have hcv : (rs.map (·.1))[q]? = some (.slice B l.length cB) := by rw [List.getElem?_map, hrs]; rfl
  have HRS := Lib.hid hrs
  clear hrs
  have hq' : (q : Int) < (n : Int) := by omega
  have hqt : q < tent.length := by omega
  have hqd : q < dec.length := by omega
  by_cases h2 : d = 2
  · have e2 : (d == 2) = true := by simp [h2]
    have HKK := Lib.hid (show ∀ r, dNote d q r = ⟨5, q, r⟩ from fun r => by unfold dNote; rw [if_pos h2])
    clear hd2 h2
    skip
    all_goals
      go_enter Try.func72, Try.ntmps72
      go_wp2_with (fail)
      refine dr_start2 [14] 3 6 hS (by kernel_rfl) rfl ?_; clear hS; intro w hS
      refine dM hS 0 rfl rfl rfl ?_
      (try simp only [Act.put, nA, nB, nC])
      refine dP hS 1 rfl rfl ?_
      (try simp only [Act.put, nA, nB, nC])
      refine dP hS 2 rfl rfl ?_
      (try simp only [Act.put, nA, nB, nC])
      (refine dL1 hS 3 rfl rfl rfl rfl ?_)
      (try simp only [Act.put, nA, nB, nC])
      refine dM hS 4 rfl rfl rfl ?_
      (try simp only [Act.put, nA, nB, nC])
      refine dM hS 5 rfl rfl rfl ?_
      (try simp only [Act.put, nA, nB, nC])
      refine dP hS 6 rfl rfl ?_
      (try simp only [Act.put, nA, nB, nC])
      refine dP hS 7 rfl rfl ?_
      (try simp only [Act.put, nA, nB, nC])
      (refine dL1 hS 8 rfl rfl rfl rfl ?_)
      (try simp only [Act.put, nA, nB, nC])
      refine dM hS 9 rfl rfl rfl ?_
      (try simp only [Act.put, nA, nB, nC])
      refine dM hS 10 rfl rfl rfl ?_
      (try simp only [Act.put, nA, nB, nC])
      refine dP hS 11 rfl rfl ?_
      (try simp only [Act.put, nA, nB, nC])
      refine dr_one 12 (by kernel_rfl) rfl ?_
      first | (refine sS6 hS rfl rfl rfl hqt ?_; clear hS; intro w hS) | ((first | refine sS1 hS rfl rfl rfl ?_ | refine sS2 hS rfl rfl rfl ?_ | refine sS3 hS rfl rfl rfl ?_ | refine sS4 hS rfl rfl rfl ?_ | refine sS5 hS rfl rfl rfl ?_); clear hS; intro w hS) | fail
      (try simp only [Act.put, nA, nB, nC])
      refine dr_end hS ?_
      refine dP hS 13 rfl rfl ?_
      (try simp only [Act.put, nA, nB, nC])
      refine dr_one 14 (by kernel_rfl) rfl ?_
      first | (refine sS6 hS rfl rfl rfl hqt ?_; clear hS; intro w hS) | ((first | refine sS1 hS rfl rfl rfl ?_ | refine sS2 hS rfl rfl rfl ?_ | refine sS3 hS rfl rfl rfl ?_ | refine sS4 hS rfl rfl rfl ?_ | refine sS5 hS rfl rfl rfl ?_); clear hS; intro w hS) | fail
      (try simp only [Act.put, nA, nB, nC])
      refine dr_late (by kernel_rfl) ?_
      refine dr_done (by kernel_rfl) ?_
      all_goals
        have hS2 := (St.re (ds := fam2 3 1 rs :: froz T u :: blk gm [.slice A1 p.len.length c1, .slice A2 p.ck.length c2, .slice A3 p.arcs.length c3, .int .i64 (root : Int), .slice (some ⟨gu, 0, none⟩) n ku, .slice (some ⟨gp, 0, none⟩) n kp, .slice (some ⟨gt, 0, none⟩) n kt, .slice (some ⟨ga, 0, none⟩) n ka, .slice (some ⟨gr, 0, none⟩) n kr, .slice (some ⟨gc, 0, none⟩) n kc, .slice (some ⟨gd, 0, none⟩) n kd, .slice FA nf fc] 55 :: row (.slice (some ⟨gp, 0, none⟩) n kp) 3 1 n (ints par) :: row (.slice (some ⟨gt, 0, none⟩) n kt) 4 1 n (bools (tent.set q false)) :: row (.slice (some ⟨ga, 0, none⟩) n ka) 3 1 n (ints aw) :: row (.slice (some ⟨gr, 0, none⟩) n kr) 4 1 n (bools ref) :: row (.slice (some ⟨gc, 0, none⟩) n kc) 25 1 n (rs.map (·.1)) :: row (.slice (some ⟨gd, 0, none⟩) n kd) 3 1 n (ints (dec.set q d)) :: row (.slice FA nf fc) 97 3 nf (ntc fl) :: row (.slice (some ⟨gu, 0, none⟩) n ku) 4 1 n (bools unw) :: cs) hS).fam2Take HRS.out
        clear hS
        have hS := hS2
        clear hS2
        go_wp2_with (fail)
        go_loopw [7] (fun s7 wr => ∃ (j : Nat) (F2 : Option Addr) (k2 : Nat), j ≤ l.length ∧ s7 = .int .i64 j ∧ St w0 M (row (.slice B l.length cB) 3 1 l.length (ints (nats l)) :: fam2 3 1 (rs.set q nilR2) :: froz T u :: blk gm [.slice A1 p.len.length c1, .slice A2 p.ck.length c2, .slice A3 p.arcs.length c3, .int .i64 (root : Int), .slice (some ⟨gu, 0, none⟩) n ku, .slice (some ⟨gp, 0, none⟩) n kp, .slice (some ⟨gt, 0, none⟩) n kt, .slice (some ⟨ga, 0, none⟩) n ka, .slice (some ⟨gr, 0, none⟩) n kr, .slice (some ⟨gc, 0, none⟩) n kc, .slice (some ⟨gd, 0, none⟩) n kd, .slice F2 (nf + j) k2] 55 :: row (.slice (some ⟨gp, 0, none⟩) n kp) 3 1 n (ints par) :: row (.slice (some ⟨gt, 0, none⟩) n kt) 4 1 n (bools (tent.set q false)) :: row (.slice (some ⟨ga, 0, none⟩) n ka) 3 1 n (ints aw) :: row (.slice (some ⟨gr, 0, none⟩) n kr) 4 1 n (bools ref) :: row (.slice (some ⟨gc, 0, none⟩) n kc) 25 1 n (rs.map (·.1)) :: row (.slice (some ⟨gd, 0, none⟩) n kd) 3 1 n (ints (dec.set q d)) :: row (.slice F2 (nf + j) k2) 97 3 (nf + j) (ntc (fl ++ (l.take j).map (dNote d q))) :: row (.slice (some ⟨gu, 0, none⟩) n ku) 4 1 n (bools unw) :: cs) wr) (fun s7 _ => l.length - (intOf s7).toNat)
        case atStart => exact ⟨0, FA, fc, by omega, rfl, by rw [List.take_zero, List.map_nil, List.append_nil, Nat.add_zero]; exact hS⟩
        case round =>
          clear hS
          obtain ⟨j, F2, k2, hj, rfl, hS⟩ := hrel
          by_cases hjl : j < l.length
          · have hjl' : (j : Int) < l.length := by omega
            obtain ⟨gB, rfl⟩ := hS.rowSome B (by omega)
            have hgx : (ints (nats l))[j]? = some (.int .i64 ((l[j] : Nat) : Int)) := by simp [ints, nats, hjl]
            have HTK := Lib.hid (show (l.take (j + 1)).map (dNote d q) = (l.take j).map (dNote d q) ++ [⟨5, q, l[j]⟩] from by rw [List.take_succ_eq_append_getElem hjl, List.map_append, List.map_cons, List.map_nil, HKK.out])
            generalize l[j] = x at *
            go_wp2_with (((refine oL ?_; (first | refine sL1 hS rfl rfl rfl ?_ | refine sL5 hS rfl rfl ?_))))
            refine dr_start1 [22] 10 hS (by kernel_rfl) rfl ?_; clear hS; intro w hS
            refine dM hS 0 rfl rfl rfl ?_
            (try simp only [Act.put, nA, nB, nC])
            refine dM hS 1 rfl rfl rfl ?_
            (try simp only [Act.put, nA, nB, nC])
            refine dP hS 2 rfl rfl ?_
            (try simp only [Act.put, nA, nB, nC])
            refine dP hS 3 rfl rfl ?_
            (try simp only [Act.put, nA, nB, nC])
            (refine dL1 hS 4 rfl rfl rfl rfl ?_)
            (try simp only [Act.put, nA, nB, nC])
            refine dM hS 5 rfl rfl rfl ?_
            (try simp only [Act.put, nA, nB, nC])
            refine dM hS 6 rfl rfl rfl ?_
            (try simp only [Act.put, nA, nB, nC])
            refine dM hS 7 rfl rfl rfl ?_
            (try simp only [Act.put, nA, nB, nC])
            refine dP hS 8 rfl rfl ?_
            (try simp only [Act.put, nA, nB, nC])
            refine dP hS 9 rfl rfl ?_
            (try simp only [Act.put, nA, nB, nC])
            (refine dL1 hS 10 rfl rfl rfl rfl ?_)
            (try simp only [Act.put, nA, nB, nC])
            refine dM hS 11 rfl rfl rfl ?_
            (try simp only [Act.put, nA, nB, nC])
            refine dP hS 12 rfl rfl ?_
            (try simp only [Act.put, nA, nB, nC])
            (refine dL5 hS 13 rfl rfl rfl ?_)
            (try simp only [Act.put, nA, nB, nC])
            refine dM hS 14 rfl rfl rfl ?_
            (try simp only [Act.put, nA, nB, nC])
            refine dP hS 15 rfl rfl ?_
            (try simp only [Act.put, nA, nB, nC])
            (refine dL5 hS 16 rfl rfl rfl ?_)
            (try simp only [Act.put, nA, nB, nC])
            refine dP hS 17 rfl rfl ?_
            (try simp only [Act.put, nA, nB, nC])
            refine dr_one 18 (by kernel_rfl) rfl ?_
            (((refine sC2 hS rfl rfl ?_)); clear hS; (((fail_if_success guard_hyp g1); intro g1 w hS)))
            (try simp only [Act.put, nA, nB, nC])
            refine dr_end hS ?_
            refine dr_one 19 (by kernel_rfl) rfl ?_
            (((refine sP2 hS rfl rfl rfl ?_)); clear hS; (((fail_if_success guard_hyp L1); intro L1 cl1 w hL1 hM1 hS)))
            (try simp only [Act.put, nA, nB, nC])
            refine dr_end hS ?_
            refine dr_one 20 (by kernel_rfl) rfl ?_
            refine WL.h (lP rfl ⟨?_⟩)
            (try simp only [Act.put, nA, nB, nC])
            refine dr_end hS ?_
            refine dP hS 21 rfl rfl ?_
            (try simp only [Act.put, nA, nB, nC])
            refine dr_one 22 (by kernel_rfl) rfl ?_
            (((refine sS1 hS rfl rfl rfl ?_)); clear hS; intro w hS)
            (try simp only [Act.put, nA, nB, nC])
            refine dr_late (by kernel_rfl) ?_
            refine dr_done (by kernel_rfl) ?_
            all_goals
              go_wp2_with (fail)
              go_roundw
              case measure => simp [intOf]; try omega
              refine ⟨j + 1, L1, cl1, by omega, by go_num, ?_⟩
              rw [HTK.out, ← List.append_assoc, ntc_snoc]
              (try simp only [List.set_cons_zero, List.set_cons_succ] at hS)
              exact hS.re
          · have hjl' : ¬ (j : Int) < l.length := by omega
            have HE := Lib.hid (show j = l.length by omega)
            go_wp2_with (((refine oL ?_; (first | refine sL1 hS rfl rfl rfl ?_ | refine sL5 hS rfl rfl ?_))))
            first | go_end0 | refine bodyPost_ret (results_none rfl _ _ _) rfl ?_
            rw [List.take_of_length_le (by omega), HE.out] at hS
            have hS2 := hS.fam2Put (j := q)
            rw [set_sameN HRS.out] at hS2
            refine ⟨rfl, F2, k2, ?_⟩
            simp only [ints, List.map_set] at hS2 ⊢
            exact hS2.re
  · have e2 : (d == 2) = false := by simp [h2]
    have HKK := Lib.hid (show ∀ r, dNote d q r = ⟨4, q, r⟩ from fun r => by unfold dNote; rw [if_neg h2])
    clear hd2 h2
    skip
    all_goals
      go_enter Try.func72, Try.ntmps72
      go_wp2_with (fail)
      refine dr_start2 [14] 3 6 hS (by kernel_rfl) rfl ?_; clear hS; intro w hS
      refine dM hS 0 rfl rfl rfl ?_
      (try simp only [Act.put, nA, nB, nC])
      refine dP hS 1 rfl rfl ?_
      (try simp only [Act.put, nA, nB, nC])
      refine dP hS 2 rfl rfl ?_
      (try simp only [Act.put, nA, nB, nC])
      (refine dL1 hS 3 rfl rfl rfl rfl ?_)
      (try simp only [Act.put, nA, nB, nC])
      refine dM hS 4 rfl rfl rfl ?_
      (try simp only [Act.put, nA, nB, nC])
      refine dM hS 5 rfl rfl rfl ?_
      (try simp only [Act.put, nA, nB, nC])
      refine dP hS 6 rfl rfl ?_
      (try simp only [Act.put, nA, nB, nC])
      refine dP hS 7 rfl rfl ?_
      (try simp only [Act.put, nA, nB, nC])
      (refine dL1 hS 8 rfl rfl rfl rfl ?_)
      (try simp only [Act.put, nA, nB, nC])
      refine dM hS 9 rfl rfl rfl ?_
      (try simp only [Act.put, nA, nB, nC])
      refine dM hS 10 rfl rfl rfl ?_
      (try simp only [Act.put, nA, nB, nC])
      refine dP hS 11 rfl rfl ?_
      (try simp only [Act.put, nA, nB, nC])
      refine dr_one 12 (by kernel_rfl) rfl ?_
      first | (refine sS6 hS rfl rfl rfl hqt ?_; clear hS; intro w hS) | ((first | refine sS1 hS rfl rfl rfl ?_ | refine sS2 hS rfl rfl rfl ?_ | refine sS3 hS rfl rfl rfl ?_ | refine sS4 hS rfl rfl rfl ?_ | refine sS5 hS rfl rfl rfl ?_); clear hS; intro w hS) | fail
      (try simp only [Act.put, nA, nB, nC])
      refine dr_end hS ?_
      refine dP hS 13 rfl rfl ?_
      (try simp only [Act.put, nA, nB, nC])
      refine dr_one 14 (by kernel_rfl) rfl ?_
      first | (refine sS6 hS rfl rfl rfl hqt ?_; clear hS; intro w hS) | ((first | refine sS1 hS rfl rfl rfl ?_ | refine sS2 hS rfl rfl rfl ?_ | refine sS3 hS rfl rfl rfl ?_ | refine sS4 hS rfl rfl rfl ?_ | refine sS5 hS rfl rfl rfl ?_); clear hS; intro w hS) | fail
      (try simp only [Act.put, nA, nB, nC])
      refine dr_late (by kernel_rfl) ?_
      refine dr_done (by kernel_rfl) ?_
      all_goals
        have hS2 := (St.re (ds := fam2 3 1 rs :: froz T u :: blk gm [.slice A1 p.len.length c1, .slice A2 p.ck.length c2, .slice A3 p.arcs.length c3, .int .i64 (root : Int), .slice (some ⟨gu, 0, none⟩) n ku, .slice (some ⟨gp, 0, none⟩) n kp, .slice (some ⟨gt, 0, none⟩) n kt, .slice (some ⟨ga, 0, none⟩) n ka, .slice (some ⟨gr, 0, none⟩) n kr, .slice (some ⟨gc, 0, none⟩) n kc, .slice (some ⟨gd, 0, none⟩) n kd, .slice FA nf fc] 55 :: row (.slice (some ⟨gp, 0, none⟩) n kp) 3 1 n (ints par) :: row (.slice (some ⟨gt, 0, none⟩) n kt) 4 1 n (bools (tent.set q false)) :: row (.slice (some ⟨ga, 0, none⟩) n ka) 3 1 n (ints aw) :: row (.slice (some ⟨gr, 0, none⟩) n kr) 4 1 n (bools ref) :: row (.slice (some ⟨gc, 0, none⟩) n kc) 25 1 n (rs.map (·.1)) :: row (.slice (some ⟨gd, 0, none⟩) n kd) 3 1 n (ints (dec.set q d)) :: row (.slice FA nf fc) 97 3 nf (ntc fl) :: row (.slice (some ⟨gu, 0, none⟩) n ku) 4 1 n (bools unw) :: cs) hS).fam2Take HRS.out
        clear hS
        have hS := hS2
        clear hS2
        go_wp2_with (fail)
        go_loopw [7] (fun s7 wr => ∃ (j : Nat) (F2 : Option Addr) (k2 : Nat), j ≤ l.length ∧ s7 = .int .i64 j ∧ St w0 M (row (.slice B l.length cB) 3 1 l.length (ints (nats l)) :: fam2 3 1 (rs.set q nilR2) :: froz T u :: blk gm [.slice A1 p.len.length c1, .slice A2 p.ck.length c2, .slice A3 p.arcs.length c3, .int .i64 (root : Int), .slice (some ⟨gu, 0, none⟩) n ku, .slice (some ⟨gp, 0, none⟩) n kp, .slice (some ⟨gt, 0, none⟩) n kt, .slice (some ⟨ga, 0, none⟩) n ka, .slice (some ⟨gr, 0, none⟩) n kr, .slice (some ⟨gc, 0, none⟩) n kc, .slice (some ⟨gd, 0, none⟩) n kd, .slice F2 (nf + j) k2] 55 :: row (.slice (some ⟨gp, 0, none⟩) n kp) 3 1 n (ints par) :: row (.slice (some ⟨gt, 0, none⟩) n kt) 4 1 n (bools (tent.set q false)) :: row (.slice (some ⟨ga, 0, none⟩) n ka) 3 1 n (ints aw) :: row (.slice (some ⟨gr, 0, none⟩) n kr) 4 1 n (bools ref) :: row (.slice (some ⟨gc, 0, none⟩) n kc) 25 1 n (rs.map (·.1)) :: row (.slice (some ⟨gd, 0, none⟩) n kd) 3 1 n (ints (dec.set q d)) :: row (.slice F2 (nf + j) k2) 97 3 (nf + j) (ntc (fl ++ (l.take j).map (dNote d q))) :: row (.slice (some ⟨gu, 0, none⟩) n ku) 4 1 n (bools unw) :: cs) wr) (fun s7 _ => l.length - (intOf s7).toNat)
        case atStart => exact ⟨0, FA, fc, by omega, rfl, by rw [List.take_zero, List.map_nil, List.append_nil, Nat.add_zero]; exact hS⟩
        case round =>
          clear hS
          obtain ⟨j, F2, k2, hj, rfl, hS⟩ := hrel
          by_cases hjl : j < l.length
          · have hjl' : (j : Int) < l.length := by omega
            obtain ⟨gB, rfl⟩ := hS.rowSome B (by omega)
            have hgx : (ints (nats l))[j]? = some (.int .i64 ((l[j] : Nat) : Int)) := by simp [ints, nats, hjl]
            have HTK := Lib.hid (show (l.take (j + 1)).map (dNote d q) = (l.take j).map (dNote d q) ++ [⟨4, q, l[j]⟩] from by rw [List.take_succ_eq_append_getElem hjl, List.map_append, List.map_cons, List.map_nil, HKK.out])
            generalize l[j] = x at *
            go_wp2_with (((refine oL ?_; (first | refine sL1 hS rfl rfl rfl ?_ | refine sL5 hS rfl rfl ?_))))
            refine dr_start1 [22] 10 hS (by kernel_rfl) rfl ?_; clear hS; intro w hS
            refine dM hS 0 rfl rfl rfl ?_
            (try simp only [Act.put, nA, nB, nC])
            refine dM hS 1 rfl rfl rfl ?_
            (try simp only [Act.put, nA, nB, nC])
            refine dP hS 2 rfl rfl ?_
            (try simp only [Act.put, nA, nB, nC])
            refine dP hS 3 rfl rfl ?_
            (try simp only [Act.put, nA, nB, nC])
            (refine dL1 hS 4 rfl rfl rfl rfl ?_)
            (try simp only [Act.put, nA, nB, nC])
            refine dM hS 5 rfl rfl rfl ?_
            (try simp only [Act.put, nA, nB, nC])
            refine dM hS 6 rfl rfl rfl ?_
            (try simp only [Act.put, nA, nB, nC])
            refine dM hS 7 rfl rfl rfl ?_
            (try simp only [Act.put, nA, nB, nC])
            refine dP hS 8 rfl rfl ?_
            (try simp only [Act.put, nA, nB, nC])
            refine dP hS 9 rfl rfl ?_
            (try simp only [Act.put, nA, nB, nC])
            (refine dL1 hS 10 rfl rfl rfl rfl ?_)
            (try simp only [Act.put, nA, nB, nC])
            refine dM hS 11 rfl rfl rfl ?_
            (try simp only [Act.put, nA, nB, nC])
            refine dP hS 12 rfl rfl ?_
            (try simp only [Act.put, nA, nB, nC])
            (refine dL5 hS 13 rfl rfl rfl ?_)
            (try simp only [Act.put, nA, nB, nC])
            refine dM hS 14 rfl rfl rfl ?_
            (try simp only [Act.put, nA, nB, nC])
            refine dP hS 15 rfl rfl ?_
            (try simp only [Act.put, nA, nB, nC])
            (refine dL5 hS 16 rfl rfl rfl ?_)
            (try simp only [Act.put, nA, nB, nC])
            refine dP hS 17 rfl rfl ?_
            (try simp only [Act.put, nA, nB, nC])
            refine dr_one 18 (by kernel_rfl) rfl ?_
            (((refine sC2 hS rfl rfl ?_)); clear hS; (((fail_if_success guard_hyp g1); intro g1 w hS)))
            (try simp only [Act.put, nA, nB, nC])
            refine dr_end hS ?_
            refine dr_one 19 (by kernel_rfl) rfl ?_
            (((refine sP2 hS rfl rfl rfl ?_)); clear hS; (((fail_if_success guard_hyp L1); intro L1 cl1 w hL1 hM1 hS)))
            (try simp only [Act.put, nA, nB, nC])
            refine dr_end hS ?_
            refine dr_one 20 (by kernel_rfl) rfl ?_
            refine WL.h (lP rfl ⟨?_⟩)
            (try simp only [Act.put, nA, nB, nC])
            refine dr_end hS ?_
            refine dP hS 21 rfl rfl ?_
            (try simp only [Act.put, nA, nB, nC])
            refine dr_one 22 (by kernel_rfl) rfl ?_
            (((refine sS1 hS rfl rfl rfl ?_)); clear hS; intro w hS)
            (try simp only [Act.put, nA, nB, nC])
            refine dr_late (by kernel_rfl) ?_
            refine dr_done (by kernel_rfl) ?_
            all_goals
              go_wp2_with (fail)
              go_roundw
              case measure => simp [intOf]; try omega
              refine ⟨j + 1, L1, cl1, by omega, by go_num, ?_⟩
              rw [HTK.out, ← List.append_assoc, ntc_snoc]
              (try simp only [List.set_cons_zero, List.set_cons_succ] at hS)
              exact hS.re
          · have hjl' : ¬ (j : Int) < l.length := by omega
            have HE := Lib.hid (show j = l.length by omega)
            go_wp2_with (((refine oL ?_; (first | refine sL1 hS rfl rfl rfl ?_ | refine sL5 hS rfl rfl ?_))))
            first | go_end0 | refine bodyPost_ret (results_none rfl _ _ _) rfl ?_
            rw [List.take_of_length_le (by omega), HE.out] at hS
            have hS2 := hS.fam2Put (j := q)
            rw [set_sameN HRS.out] at hS2
            refine ⟨rfl, F2, k2, ?_⟩
            simp only [ints, List.map_set] at hS2 ⊢
            exact hS2.re
set_option maxRecDepth 100000 in
set_option maxHeartbeats 6400000 in
theorem ranswer_st {w0 w u : World} {M T : Nat → Prop} {cs : List (Chunk w0 M)} (gm : Nat) (A1 : Option Addr) (c1 : Nat) (A2 : Option Addr) (c2 : Nat) (A3 : Option Addr) (c3 : Nat) (p : Pat) (root n : Nat) (gu ku gp kp gt kt ga ka gr kr gc kc gd kd : Nat) (par aw dec : List Int) (unw tent ref : List Bool) (ch : List (List Nat)) (rs : List RwD) (fl : List Nt) (FA : Option Addr) (nf fc : Nat) (q pk : Nat) (hS : St w0 M (froz T u :: blk gm [.slice A1 p.len.length c1, .slice A2 p.ck.length c2, .slice A3 p.arcs.length c3, .int .i64 (root : Int), .slice (some ⟨gu, 0, none⟩) n ku, .slice (some ⟨gp, 0, none⟩) n kp, .slice (some ⟨gt, 0, none⟩) n kt, .slice (some ⟨ga, 0, none⟩) n ka, .slice (some ⟨gr, 0, none⟩) n kr, .slice (some ⟨gc, 0, none⟩) n kc, .slice (some ⟨gd, 0, none⟩) n kd, .slice FA nf fc] 55 :: row (.slice (some ⟨gp, 0, none⟩) n kp) 3 1 n (ints par) :: row (.slice (some ⟨gt, 0, none⟩) n kt) 4 1 n (bools tent) :: row (.slice (some ⟨ga, 0, none⟩) n ka) 3 1 n (ints aw) :: row (.slice (some ⟨gr, 0, none⟩) n kr) 4 1 n (bools ref) :: row (.slice (some ⟨gc, 0, none⟩) n kc) 25 1 n (rs.map (·.1)) :: row (.slice (some ⟨gd, 0, none⟩) n kd) 3 1 n (ints dec) :: row (.slice FA nf fc) 97 3 nf (ntc fl) :: row (.slice (some ⟨gu, 0, none⟩) n ku) 4 1 n (bools unw) :: fam2 3 1 rs :: cs) w) (hb : nf ≤ 1900) (hq : q < n) (hp : par.length = n) (ht : tent.length = n) (hr : ref.length = n) (hd : dec.length = n) (hc : ch.length = n) (hF : FamN rs ch) (hl : (chR ch q).length ≤ 5) (hpk : q ≠ root → nth par q = (pk : Int)) :
    Calls Try.prog 71 #[.pointer (some ⟨gm, 0, none⟩), .int .i64 (q : Int)] w fun e w' => e = .returned (.tuple #[]) ∧ ∃ (F2 : Option Addr) (nf2 k2 : Nat), St w0 M (froz T u :: blk gm [.slice A1 p.len.length c1, .slice A2 p.ck.length c2, .slice A3 p.arcs.length c3, .int .i64 (root : Int), .slice (some ⟨gu, 0, none⟩) n ku, .slice (some ⟨gp, 0, none⟩) n kp, .slice (some ⟨gt, 0, none⟩) n kt, .slice (some ⟨ga, 0, none⟩) n ka, .slice (some ⟨gr, 0, none⟩) n kr, .slice (some ⟨gc, 0, none⟩) n kc, .slice (some ⟨gd, 0, none⟩) n kd, .slice F2 nf2 k2] 55 :: row (.slice (some ⟨gp, 0, none⟩) n kp) 3 1 n (ints par) :: row (.slice (some ⟨gt, 0, none⟩) n kt) 4 1 n (bools ((⟨root, unw, par, tent, aw, ref, ch, dec, fl⟩ : TS).ans q).tent) :: row (.slice (some ⟨ga, 0, none⟩) n ka) 3 1 n (ints aw) :: row (.slice (some ⟨gr, 0, none⟩) n kr) 4 1 n (bools ref) :: row (.slice (some ⟨gc, 0, none⟩) n kc) 25 1 n (rs.map (·.1)) :: row (.slice (some ⟨gd, 0, none⟩) n kd) 3 1 n (ints ((⟨root, unw, par, tent, aw, ref, ch, dec, fl⟩ : TS).ans q).dec) :: row (.slice F2 nf2 k2) 97 3 nf2 (ntc ((⟨root, unw, par, tent, aw, ref, ch, dec, fl⟩ : TS).ans q).fl) :: row (.slice (some ⟨gu, 0, none⟩) n ku) 4 1 n (bools unw) :: fam2 3 1 rs :: cs) w' := by
  obtain ⟨B, cB, hrs, hcv⟩ := hF.at_ (k := q) (by omega)
  have HCV := Lib.hid hrs
  clear hrs hF
  have hq' : (q : Int) < (n : Int) := by omega
  have hrq := opOf_at (l := ref) (q := q) (by omega)
  have HA := Lib.hid (show (⟨root, unw, par, tent, aw, ref, ch, dec, fl⟩ : TS).ans q = if q = root then (if opOf ref q then (⟨root, unw, par, tent, aw, ref, ch, dec, fl⟩ : TS).dcd q 2 else (⟨root, unw, par, tent, aw, ref, ch, dec, fl⟩ : TS).dcd q 1) else if opOf ref q then ((⟨root, unw, par, tent, aw, ref, ch, dec, fl⟩ : TS).post ⟨3, q, (parN par q).toNat⟩).dcd q 2 else (⟨root, unw, par, tent, aw, ref, ch, dec, fl⟩ : TS).post ⟨2, q, (parN par q).toNat⟩ from rfl)
  by_cases hqr : q = root
  · have e1 : ((q : Int) == (root : Int)) = true := by simp [hqr]
    rw [if_pos hqr] at HA
    clear hpk hqr
    generalize opOf ref q = b at *
    cases b with
    | true =>
      have HANS := Lib.hid (HA.out.trans (if_pos rfl))
      go_enter Try.func71, Try.ntmps71
      go_wp2_with (first | (go_at_call 72; refine (rdecide_st gm A1 c1 A2 c2 A3 c3 p root n gu ku gp kp gt kt ga ka gr kr gc kc gd kd par aw dec unw tent ref rs fl FA nf fc q 2 (chR ch q) B cB (hS.re (ds := froz T u :: blk gm [.slice A1 p.len.length c1, .slice A2 p.ck.length c2, .slice A3 p.arcs.length c3, .int .i64 (root : Int), .slice (some ⟨gu, 0, none⟩) n ku, .slice (some ⟨gp, 0, none⟩) n kp, .slice (some ⟨gt, 0, none⟩) n kt, .slice (some ⟨ga, 0, none⟩) n ka, .slice (some ⟨gr, 0, none⟩) n kr, .slice (some ⟨gc, 0, none⟩) n kc, .slice (some ⟨gd, 0, none⟩) n kd, .slice FA nf fc] 55 :: row (.slice (some ⟨gp, 0, none⟩) n kp) 3 1 n (ints par) :: row (.slice (some ⟨gt, 0, none⟩) n kt) 4 1 n (bools tent) :: row (.slice (some ⟨ga, 0, none⟩) n ka) 3 1 n (ints aw) :: row (.slice (some ⟨gr, 0, none⟩) n kr) 4 1 n (bools ref) :: row (.slice (some ⟨gc, 0, none⟩) n kc) 25 1 n (rs.map (·.1)) :: row (.slice (some ⟨gd, 0, none⟩) n kd) 3 1 n (ints dec) :: row (.slice FA nf fc) 97 3 nf (ntc fl) :: row (.slice (some ⟨gu, 0, none⟩) n ku) 4 1 n (bools unw) :: fam2 3 1 rs :: cs)) (by omega) hq ht hd HCV.out hl (.inr rfl)).mono ?_; rintro e w ⟨rfl, F2, k2, hS1⟩; clear hS; have hS := hS1; clear hS1) | (refine oL ?_; (first | refine sL1 hS rfl rfl rfl ?_ | refine sL5 hS rfl rfl ?_)))
      first | go_end0 | refine bodyPost_ret (results_none rfl _ _ _) rfl ?_
      refine ⟨rfl, F2, nf + (chR ch q).length, k2, ?_⟩
      rw [HANS.out]
      first | exact hS | exact hS.re | (simp only [ints, List.map_set] at hS ⊢; exact hS)
    | false =>
      have HANS := Lib.hid (HA.out.trans (if_neg (by decide)))
      go_enter Try.func71, Try.ntmps71
      go_wp2_with (first | (go_at_call 72; refine (rdecide_st gm A1 c1 A2 c2 A3 c3 p root n gu ku gp kp gt kt ga ka gr kr gc kc gd kd par aw dec unw tent ref rs fl FA nf fc q 1 (chR ch q) B cB (hS.re (ds := froz T u :: blk gm [.slice A1 p.len.length c1, .slice A2 p.ck.length c2, .slice A3 p.arcs.length c3, .int .i64 (root : Int), .slice (some ⟨gu, 0, none⟩) n ku, .slice (some ⟨gp, 0, none⟩) n kp, .slice (some ⟨gt, 0, none⟩) n kt, .slice (some ⟨ga, 0, none⟩) n ka, .slice (some ⟨gr, 0, none⟩) n kr, .slice (some ⟨gc, 0, none⟩) n kc, .slice (some ⟨gd, 0, none⟩) n kd, .slice FA nf fc] 55 :: row (.slice (some ⟨gp, 0, none⟩) n kp) 3 1 n (ints par) :: row (.slice (some ⟨gt, 0, none⟩) n kt) 4 1 n (bools tent) :: row (.slice (some ⟨ga, 0, none⟩) n ka) 3 1 n (ints aw) :: row (.slice (some ⟨gr, 0, none⟩) n kr) 4 1 n (bools ref) :: row (.slice (some ⟨gc, 0, none⟩) n kc) 25 1 n (rs.map (·.1)) :: row (.slice (some ⟨gd, 0, none⟩) n kd) 3 1 n (ints dec) :: row (.slice FA nf fc) 97 3 nf (ntc fl) :: row (.slice (some ⟨gu, 0, none⟩) n ku) 4 1 n (bools unw) :: fam2 3 1 rs :: cs)) (by omega) hq ht hd HCV.out hl (.inl rfl)).mono ?_; rintro e w ⟨rfl, F2, k2, hS1⟩; clear hS; have hS := hS1; clear hS1) | (refine oL ?_; (first | refine sL1 hS rfl rfl rfl ?_ | refine sL5 hS rfl rfl ?_)))
      first | go_end0 | refine bodyPost_ret (results_none rfl _ _ _) rfl ?_
      refine ⟨rfl, F2, nf + (chR ch q).length, k2, ?_⟩
      rw [HANS.out]
      first | exact hS | exact hS.re | (simp only [ints, List.map_set] at hS ⊢; exact hS)
  · have e1 : ((q : Int) == (root : Int)) = false := by simp; omega
    rw [if_neg hqr] at HA
    have hpk2 := hpk hqr
    have hpn : (parN par q).toNat = pk := by
      have : parN par q = nth par q := by unfold parN nth; rw [List.getD_eq_getElem?_getD, List.getD_eq_getElem?_getD, List.getElem?_eq_getElem (by omega)]; rfl
      rw [this, hpk2]; simp
    rw [hpn] at HA
    have hpq := nth_at (l := par) (q := q) (by omega)
    rw [hpk2] at hpq
    clear hpk hqr hpk2 hpn
    generalize opOf ref q = b at *
    cases b with
    | true =>
      have HANS := Lib.hid (HA.out.trans (if_pos rfl))
      go_enter Try.func71, Try.ntmps71
      go_upto_region 6 with (((refine oL ?_; (first | refine sL1 hS rfl rfl rfl ?_ | refine sL5 hS rfl rfl ?_))))
      refine dr_start1 [18] 8 hS (by kernel_rfl) rfl ?_; clear hS; intro w hS
      refine dM hS 0 rfl rfl rfl ?_
      (try simp only [Act.put, nA, nB, nC])
      refine dM hS 1 rfl rfl rfl ?_
      (try simp only [Act.put, nA, nB, nC])
      refine dP hS 2 rfl rfl ?_
      (try simp only [Act.put, nA, nB, nC])
      refine dP hS 3 rfl rfl ?_
      (try simp only [Act.put, nA, nB, nC])
      (refine dL1 hS 4 rfl rfl rfl rfl ?_)
      (try simp only [Act.put, nA, nB, nC])
      refine dM hS 5 rfl rfl rfl ?_
      (try simp only [Act.put, nA, nB, nC])
      refine dM hS 6 rfl rfl rfl ?_
      (try simp only [Act.put, nA, nB, nC])
      refine dP hS 7 rfl rfl ?_
      (try simp only [Act.put, nA, nB, nC])
      refine dP hS 8 rfl rfl ?_
      (try simp only [Act.put, nA, nB, nC])
      (refine dL1 hS 9 rfl rfl rfl rfl ?_)
      (try simp only [Act.put, nA, nB, nC])
      refine dM hS 10 rfl rfl rfl ?_
      (try simp only [Act.put, nA, nB, nC])
      refine dP hS 11 rfl rfl ?_
      (try simp only [Act.put, nA, nB, nC])
      (refine dL5 hS 12 rfl rfl rfl ?_)
      (try simp only [Act.put, nA, nB, nC])
      refine dP hS 13 rfl rfl ?_
      (try simp only [Act.put, nA, nB, nC])
      refine dr_one 14 (by kernel_rfl) rfl ?_
      (((refine sC2 hS rfl rfl ?_)); clear hS; (((fail_if_success guard_hyp g1); intro g1 w hS)))
      (try simp only [Act.put, nA, nB, nC])
      refine dr_end hS ?_
      refine dr_one 15 (by kernel_rfl) rfl ?_
      (((refine sP2 hS rfl rfl rfl ?_)); clear hS; (((fail_if_success guard_hyp L1); intro L1 cl1 w hL1 hM1 hS)))
      (try simp only [Act.put, nA, nB, nC])
      refine dr_end hS ?_
      refine dr_one 16 (by kernel_rfl) rfl ?_
      refine WL.h (lP rfl ⟨?_⟩)
      (try simp only [Act.put, nA, nB, nC])
      refine dr_end hS ?_
      refine dP hS 17 rfl rfl ?_
      (try simp only [Act.put, nA, nB, nC])
      refine dr_one 18 (by kernel_rfl) rfl ?_
      (((refine sS1 hS rfl rfl rfl ?_)); clear hS; intro w hS)
      (try simp only [Act.put, nA, nB, nC])
      refine dr_late (by kernel_rfl) ?_
      refine dr_done (by kernel_rfl) ?_
      all_goals
        (try simp only [List.set_cons_zero, List.set_cons_succ] at hS)
        rw [show ntc fl ++ [.int .i64 3, .int .i64 (q : Int), .int .i64 (pk : Int)] = ntc (fl ++ [⟨3, q, pk⟩]) from (ntc_snoc fl ⟨3, q, pk⟩).symm] at hS
        go_wp2_with (((go_at_call 72; refine (rdecide_st gm A1 c1 A2 c2 A3 c3 p root n gu ku gp kp gt kt ga ka gr kr gc kc gd kd par aw dec unw tent ref rs (fl ++ [⟨3, q, pk⟩]) L1 (nf + 1) cl1 q 2 (chR ch q) B cB (hS.re (ds := froz T u :: blk gm [.slice A1 p.len.length c1, .slice A2 p.ck.length c2, .slice A3 p.arcs.length c3, .int .i64 (root : Int), .slice (some ⟨gu, 0, none⟩) n ku, .slice (some ⟨gp, 0, none⟩) n kp, .slice (some ⟨gt, 0, none⟩) n kt, .slice (some ⟨ga, 0, none⟩) n ka, .slice (some ⟨gr, 0, none⟩) n kr, .slice (some ⟨gc, 0, none⟩) n kc, .slice (some ⟨gd, 0, none⟩) n kd, .slice L1 (nf + 1) cl1] 55 :: row (.slice (some ⟨gp, 0, none⟩) n kp) 3 1 n (ints par) :: row (.slice (some ⟨gt, 0, none⟩) n kt) 4 1 n (bools tent) :: row (.slice (some ⟨ga, 0, none⟩) n ka) 3 1 n (ints aw) :: row (.slice (some ⟨gr, 0, none⟩) n kr) 4 1 n (bools ref) :: row (.slice (some ⟨gc, 0, none⟩) n kc) 25 1 n (rs.map (·.1)) :: row (.slice (some ⟨gd, 0, none⟩) n kd) 3 1 n (ints dec) :: row (.slice L1 (nf + 1) cl1) 97 3 (nf + 1) (ntc (fl ++ [⟨3, q, pk⟩])) :: row (.slice (some ⟨gu, 0, none⟩) n ku) 4 1 n (bools unw) :: fam2 3 1 rs :: cs)) (by omega) hq ht hd HCV.out hl (.inr rfl)).mono ?_; rintro e w ⟨rfl, F2, k2, hS1⟩; clear hS; have hS := hS1; clear hS1)))
        first | go_end0 | refine bodyPost_ret (results_none rfl _ _ _) rfl ?_
        refine ⟨rfl, F2, nf + 1 + (chR ch q).length, k2, ?_⟩
        rw [HANS.out]
        first | exact hS | exact hS.re | (simp only [ints, List.map_set] at hS ⊢; exact hS)
    | false =>
      have HANS := Lib.hid (HA.out.trans (if_neg (by decide)))
      go_enter Try.func71, Try.ntmps71
      go_upto_region 5 with (((refine oL ?_; (first | refine sL1 hS rfl rfl rfl ?_ | refine sL5 hS rfl rfl ?_))))
      refine dr_start1 [18] 8 hS (by kernel_rfl) rfl ?_; clear hS; intro w hS
      refine dM hS 0 rfl rfl rfl ?_
      (try simp only [Act.put, nA, nB, nC])
      refine dM hS 1 rfl rfl rfl ?_
      (try simp only [Act.put, nA, nB, nC])
      refine dP hS 2 rfl rfl ?_
      (try simp only [Act.put, nA, nB, nC])
      refine dP hS 3 rfl rfl ?_
      (try simp only [Act.put, nA, nB, nC])
      (refine dL1 hS 4 rfl rfl rfl rfl ?_)
      (try simp only [Act.put, nA, nB, nC])
      refine dM hS 5 rfl rfl rfl ?_
      (try simp only [Act.put, nA, nB, nC])
      refine dM hS 6 rfl rfl rfl ?_
      (try simp only [Act.put, nA, nB, nC])
      refine dP hS 7 rfl rfl ?_
      (try simp only [Act.put, nA, nB, nC])
      refine dP hS 8 rfl rfl ?_
      (try simp only [Act.put, nA, nB, nC])
      (refine dL1 hS 9 rfl rfl rfl rfl ?_)
      (try simp only [Act.put, nA, nB, nC])
      refine dM hS 10 rfl rfl rfl ?_
      (try simp only [Act.put, nA, nB, nC])
      refine dP hS 11 rfl rfl ?_
      (try simp only [Act.put, nA, nB, nC])
      (refine dL5 hS 12 rfl rfl rfl ?_)
      (try simp only [Act.put, nA, nB, nC])
      refine dP hS 13 rfl rfl ?_
      (try simp only [Act.put, nA, nB, nC])
      refine dr_one 14 (by kernel_rfl) rfl ?_
      (((refine sC2 hS rfl rfl ?_)); clear hS; (((fail_if_success guard_hyp g1); intro g1 w hS)))
      (try simp only [Act.put, nA, nB, nC])
      refine dr_end hS ?_
      refine dr_one 15 (by kernel_rfl) rfl ?_
      (((refine sP2 hS rfl rfl rfl ?_)); clear hS; (((fail_if_success guard_hyp L1); intro L1 cl1 w hL1 hM1 hS)))
      (try simp only [Act.put, nA, nB, nC])
      refine dr_end hS ?_
      refine dr_one 16 (by kernel_rfl) rfl ?_
      refine WL.h (lP rfl ⟨?_⟩)
      (try simp only [Act.put, nA, nB, nC])
      refine dr_end hS ?_
      refine dP hS 17 rfl rfl ?_
      (try simp only [Act.put, nA, nB, nC])
      refine dr_one 18 (by kernel_rfl) rfl ?_
      (((refine sS1 hS rfl rfl rfl ?_)); clear hS; intro w hS)
      (try simp only [Act.put, nA, nB, nC])
      refine dr_late (by kernel_rfl) ?_
      refine dr_done (by kernel_rfl) ?_
      all_goals
        (try simp only [List.set_cons_zero, List.set_cons_succ] at hS)
        rw [show ntc fl ++ [.int .i64 2, .int .i64 (q : Int), .int .i64 (pk : Int)] = ntc (fl ++ [⟨2, q, pk⟩]) from (ntc_snoc fl ⟨2, q, pk⟩).symm] at hS
        go_wp2_with (fail)
        first | go_end0 | refine bodyPost_ret (results_none rfl _ _ _) rfl ?_
        refine ⟨rfl, L1, nf + 1, cl1, ?_⟩
        rw [HANS.out]
        first | exact hS | exact hS.re | (simp only [ints, List.map_set] at hS ⊢; exact hS)
end Go.Proofs.Ytmjmdncdmmcmaaa

