/- causal.Before: what is reached by edges. Conditions: the pattern is good and lies in memory, the points are points of it. -/
import Derived.Test.YtkflmichekpfbaaBefA
namespace Go.Proofs.Ytkflmichekpfbaa
open Go.RowKit
set_option linter.unusedVariables false
set_option linter.unusedSimpArgs false
set_option linter.unusedSectionVars false

/-- what Before returns -/
def BefRes (p : Pat) (a b : Nat × Int) (w0 : World) (e : Ending) (w' : World) : Prop := ∃ r : Bool, (r = true ↔ a ≠ b ∧ Reach p b a) ∧ e = .returned (.bool r) ∧ Ext w0 w'
theorem allPts_len {p : Pat} (hg : Good p) : (allPts p).length ≤ 5 * 65 := by
  unfold allPts
  have hn := hg.n5
  have hhi := hg.hi
  generalize p.len.length = n at *
  rw [List.length_flatMap]
  have : ∀ (l : List Nat), (∀ q ∈ l, q < n) → (l.map fun q => ((List.range ((nth p.len q).toNat + 1)).map fun (k : Nat) => (q, (k : Int))).length).sum ≤ l.length * 65 := by
    intro l
    induction l with
    | nil => intro _; simp
    | cons q l ih =>
      intro h
      have h1 := ih (fun r hr => h r (by simp [hr]))
      have h2 := hhi q (h q (by simp))
      simp only [List.map_cons, List.sum_cons, List.length_map, List.length_range, List.length_cons] at h1 ⊢
      omega
  have h3 := this (List.range n) (fun q hq => List.mem_range.1 hq)
  rw [List.length_range] at h3
  omega
theorem unseen_le {p : Pat} (hg : Good p) (s : Int × Int → Bool) : unseen p s ≤ 5 * 65 := Nat.le_trans List.countP_le_length (allPts_len hg)
theorem last_pt {l : List (Nat × Int)} {q : Nat} {k : Int} : ∀ (i : Nat) u, ([.int .i64 (q : Int), .int .i64 k] : List Value)[i]? = some u → ((l ++ [(q, k)]).flatMap ptCells)[l.length * 2 + i]? = some u := by
  intro i u h
  have hl : (l.flatMap ptCells).length = l.length * 2 := by
    induction l with
    | nil => rfl
    | cons a l ih => simp [ptCells] at ih ⊢; omega
  rw [List.flatMap_append, List.getElem?_append_right (by omega), hl, show l.length * 2 + i - l.length * 2 = i by omega]
  simpa [ptCells] using h
theorem cut_pt {l : List (Nat × Int)} {x : Nat × Int} : ((l ++ [x]).flatMap ptCells).take (l.length * 2) = l.flatMap ptCells := by
  have hl : (l.flatMap ptCells).length = l.length * 2 := by
    induction l with
    | nil => rfl
    | cons a l ih => simp [ptCells] at ih ⊢; omega
  rw [List.flatMap_append, ← hl, List.take_left]
set_option maxRecDepth 100000 in
set_option maxHeartbeats 6400000 in
theorem before_any {S : Nat → Prop} (v : PV) (p : Pat) (qa qb : Nat) (ka kb : Int) (w0 : World) (hp : PatAt S w0 v p) (hg : Good p) (ha : PtOk p (qa, ka)) (hb : PtOk p (qb, kb)) :
    Calls Try.prog 22 #[v.val p, .agg #[.int .i64 (qa : Int), .int .i64 ka], .agg #[.int .i64 (qb : Int), .int .i64 kb]] w0 (BefRes p (qa, ka) (qb, kb) w0) := by
  have hS := St.start w0 NoM
  have hn5 := hg.n5
  have hfew := hg.few
  have HP := Lib.hid (And.intro hp (And.intro hg (And.intro ha hb)))
  clear hp hg ha hb
  obtain ⟨A1, c1, A2, c2, A3, c3⟩ := v
  simp only [PV.val] at *
  have hmf : ∀ (fn : Fn) (first cap : Array Value) (w : World), (Instr.makeFunc fn first cap).run Try.prog w = .ok (.func fn first cap) w := fun _ _ _ _ => rfl
  go_enter Try.func22, Try.ntmps22
  go_wp2_with (first | (go_at_call 62; refine (cfits_any ⟨A1, c1, A2, c2, A3, c3⟩ _ 2 p [(qa, ka), (qb, kb)] _ (HP.out.1.ext hS.toExt) HP.out.2.1 (hS.ptRow (l := [(qa, ka), (qb, kb)]) (by simp [ptCells])) (by intro a ha; simp only [List.mem_cons, List.not_mem_nil, or_false] at ha; rcases ha with rfl | rfl; exact HP.out.2.2.1; exact HP.out.2.2.2) (by simp)).mono ?_; rintro e w ⟨rfl, hx1⟩; replace hS := hS.ext hx1) | (go_at_call 63; refine (newHist_any A1 A2 A3 c1 c2 c3 p.len.length p.ck.length p.arcs _ (HP.out.1.ext hS.toExt).arcs (by omega)).mono ?_; rintro e w ⟨gh, gs, gc, rfl, hH, z1, z2, z3, hx1⟩; replace hS := hS.addHist hx1 hH z1 z2 z3; clear hH z1 z2 z3 hx1) | (refine sU2 hS rfl rfl rfl rfl ?_; clear hS; intro w hS) | (refine oL ?_; (first | refine sL1 hS rfl rfl rfl ?_ | refine sL2 hS rfl rfl rfl ?_ | refine sL3 hS rfl rfl ?_ | refine sL4 hS rfl rfl ?_ | refine sL5 hS rfl rfl ?_ | refine sL6 hS rfl rfl ?_ | refine sL7 hS rfl rfl ?_)) | (refine oS ?_; ((first | refine sS1 hS rfl rfl rfl ?_ | refine sS2 hS rfl rfl rfl ?_ | refine sS3 hS rfl rfl rfl ?_ | refine sS4 hS rfl rfl rfl ?_ | refine sS5 hS rfl rfl rfl ?_); clear hS; intro w hS)) | (refine oK ?_; (first | refine sK1 hS rfl rfl rfl ?_ | refine sK2 hS rfl rfl rfl ?_ | refine sK3 hS rfl rfl rfl ?_)) | (skip; (refine sW1 hS rfl ?_; clear hS; first | ((fail_if_success guard_hyp g1); intro g1 w hS) | ((fail_if_success guard_hyp g2); intro g2 w hS) | ((fail_if_success guard_hyp g3); intro g3 w hS) | ((fail_if_success guard_hyp g4); intro g4 w hS) | ((fail_if_success guard_hyp g5); intro g5 w hS) | ((fail_if_success guard_hyp g6); intro g6 w hS) | ((fail_if_success guard_hyp g7); intro g7 w hS) | ((fail_if_success guard_hyp g8); intro g8 w hS) | ((fail_if_success guard_hyp g9); intro g9 w hS) | ((fail_if_success guard_hyp g10); intro g10 w hS) | ((fail_if_success guard_hyp g11); intro g11 w hS) | fail)) | ((first | (refine oB ?_; first | refine sB1 hS rfl rfl ?_ | refine sB2 hS rfl rfl ?_) | refine sN1 hS rfl ?_ | (refine oC ?_; first | refine sC0 hS rfl ?_ | refine sC1 hS rfl rfl ?_ | refine sC2 hS rfl rfl ?_ | refine sC3 hS rfl rfl rfl ?_ | refine sC4 hS rfl rfl rfl ?_)); clear hS; first | ((fail_if_success guard_hyp g1); intro g1 w hS) | ((fail_if_success guard_hyp g2); intro g2 w hS) | ((fail_if_success guard_hyp g3); intro g3 w hS) | ((fail_if_success guard_hyp g4); intro g4 w hS) | ((fail_if_success guard_hyp g5); intro g5 w hS) | ((fail_if_success guard_hyp g6); intro g6 w hS) | ((fail_if_success guard_hyp g7); intro g7 w hS) | ((fail_if_success guard_hyp g8); intro g8 w hS) | ((fail_if_success guard_hyp g9); intro g9 w hS) | ((fail_if_success guard_hyp g10); intro g10 w hS) | ((fail_if_success guard_hyp g11); intro g11 w hS) | fail) | fail)
  rw [seenM_none] at hS
  replace hS := hS.blkRow (g := g7) (n := 1) (sz := 2) rfl (by decide)
  simp only [nB] at hS
  replace hS : St w0 NoM [mpc g5 (seenM (seeS (fun _ => false) ((qb : Int), kb))), blk g8 [.slice (some ⟨g7, 0, none⟩) 1 1] 32, row (.slice (some ⟨g7, 0, none⟩) 1 1) 37 2 1 [.int .i64 (qb : Int), .int .i64 kb], blk g6 [.map (some g5)] 69, mpc gs (srcM p.arcs), blk gh [.slice A1 p.len.length c1, .map (some gs), .map (some gc)] 75, blk g3 [.int .i64 (qb : Int), .int .i64 kb] 37, blk g2 [.int .i64 (qa : Int), .int .i64 ka] 37] w := hS.re
  have H0 := Lib.hid (And.intro (Dfs.start p HP.out.2.2.2) (unseen_le HP.out.2.1 (seeS (fun _ => false) (key (qb, kb)))))
  go_loopg [] (2 * unseen p (seeS (fun _ => false) (key (qb, kb))) + 1) (fun kk wr => ∃ (s : Int × Int → Bool) (l : List (Nat × Int)) (L : Option Addr) (c : Nat), l.length ≤ 651 ∧ Hid (Dfs p (qb, kb) s l none ∧ 2 * unseen p s + l.length = kk ∧ kk ≤ 651) ∧ St w0 NoM [mpc g5 (seenM s), blk g8 [.slice L l.length c] 32, row (.slice L l.length c) 37 2 l.length (l.flatMap ptCells), blk g6 [.map (some g5)] 69, mpc gs (srcM p.arcs), blk gh [.slice A1 p.len.length c1, .map (some gs), .map (some gc)] 75, blk g3 [.int .i64 (qb : Int), .int .i64 kb] 37, blk g2 [.int .i64 (qa : Int), .int .i64 ka] 37] wr)
  case atStart => exact ⟨seeS (fun _ => false) (key (qb, kb)), [(qb, kb)], some ⟨g7, 0, none⟩, 1, by simp, Lib.hid ⟨H0.out.1, rfl, by have := H0.out.2; omega⟩, hS⟩
  case round =>
    clear H0 hS
    obtain ⟨s, l, L, c, hl651, HI, hS⟩ := hrel
    rcases List.eq_nil_or_concat l with rfl | ⟨l', x, rfl⟩
    · have HF := Lib.hid (HI.out.1.fin (a := (qa, ka)))
      by_cases hq : qa = qb
      · subst hq
        by_cases hk : ka = kb
        · subst hk
          go_wp2_with (first | (refine oK ?_; refine sKb hS rfl rfl rfl rfl ?_) | (refine oL ?_; (first | refine sL1 hS rfl rfl rfl ?_ | refine sL2 hS rfl rfl rfl ?_ | refine sL3 hS rfl rfl ?_ | refine sL4 hS rfl rfl ?_ | refine sL5 hS rfl rfl ?_ | refine sL6 hS rfl rfl ?_ | refine sL7 hS rfl rfl ?_)) | (refine oS ?_; ((first | refine sS1 hS rfl rfl rfl ?_ | refine sS2 hS rfl rfl rfl ?_ | refine sS3 hS rfl rfl rfl ?_ | refine sS4 hS rfl rfl rfl ?_ | refine sS5 hS rfl rfl rfl ?_); clear hS; intro w hS)) | (refine oK ?_; (first | refine sK1 hS rfl rfl rfl ?_ | refine sK2 hS rfl rfl rfl ?_ | refine sK3 hS rfl rfl rfl ?_)) | (skip; (refine sW1 hS rfl ?_; clear hS; first | ((fail_if_success guard_hyp g1); intro g1 w hS) | ((fail_if_success guard_hyp g2); intro g2 w hS) | ((fail_if_success guard_hyp g3); intro g3 w hS) | ((fail_if_success guard_hyp g4); intro g4 w hS) | ((fail_if_success guard_hyp g5); intro g5 w hS) | ((fail_if_success guard_hyp g6); intro g6 w hS) | ((fail_if_success guard_hyp g7); intro g7 w hS) | ((fail_if_success guard_hyp g8); intro g8 w hS) | ((fail_if_success guard_hyp g9); intro g9 w hS) | ((fail_if_success guard_hyp g10); intro g10 w hS) | ((fail_if_success guard_hyp g11); intro g11 w hS) | fail)) | ((first | (refine oB ?_; first | refine sB1 hS rfl rfl ?_ | refine sB2 hS rfl rfl ?_) | refine sN1 hS rfl ?_ | (refine oC ?_; first | refine sC0 hS rfl ?_ | refine sC1 hS rfl rfl ?_ | refine sC2 hS rfl rfl ?_ | refine sC3 hS rfl rfl rfl ?_ | refine sC4 hS rfl rfl rfl ?_)); clear hS; first | ((fail_if_success guard_hyp g1); intro g1 w hS) | ((fail_if_success guard_hyp g2); intro g2 w hS) | ((fail_if_success guard_hyp g3); intro g3 w hS) | ((fail_if_success guard_hyp g4); intro g4 w hS) | ((fail_if_success guard_hyp g5); intro g5 w hS) | ((fail_if_success guard_hyp g6); intro g6 w hS) | ((fail_if_success guard_hyp g7); intro g7 w hS) | ((fail_if_success guard_hyp g8); intro g8 w hS) | ((fail_if_success guard_hyp g9); intro g9 w hS) | ((fail_if_success guard_hyp g10); intro g10 w hS) | ((fail_if_success guard_hyp g11); intro g11 w hS) | fail) | fail)
          go_ret
          exact ⟨false, ⟨fun h => (by cases h), fun h => absurd rfl h.1⟩, rfl, hS.toExt⟩
        · have HK := Lib.hid hk
          have e2 : (ka == kb) = false := by simp [hk]
          clear hk
          go_wp2_with (first | (refine oK ?_; refine sKb hS rfl rfl rfl rfl ?_) | (refine oL ?_; (first | refine sL1 hS rfl rfl rfl ?_ | refine sL2 hS rfl rfl rfl ?_ | refine sL3 hS rfl rfl ?_ | refine sL4 hS rfl rfl ?_ | refine sL5 hS rfl rfl ?_ | refine sL6 hS rfl rfl ?_ | refine sL7 hS rfl rfl ?_)) | (refine oS ?_; ((first | refine sS1 hS rfl rfl rfl ?_ | refine sS2 hS rfl rfl rfl ?_ | refine sS3 hS rfl rfl rfl ?_ | refine sS4 hS rfl rfl rfl ?_ | refine sS5 hS rfl rfl rfl ?_); clear hS; intro w hS)) | (refine oK ?_; (first | refine sK1 hS rfl rfl rfl ?_ | refine sK2 hS rfl rfl rfl ?_ | refine sK3 hS rfl rfl rfl ?_)) | (skip; (refine sW1 hS rfl ?_; clear hS; first | ((fail_if_success guard_hyp g1); intro g1 w hS) | ((fail_if_success guard_hyp g2); intro g2 w hS) | ((fail_if_success guard_hyp g3); intro g3 w hS) | ((fail_if_success guard_hyp g4); intro g4 w hS) | ((fail_if_success guard_hyp g5); intro g5 w hS) | ((fail_if_success guard_hyp g6); intro g6 w hS) | ((fail_if_success guard_hyp g7); intro g7 w hS) | ((fail_if_success guard_hyp g8); intro g8 w hS) | ((fail_if_success guard_hyp g9); intro g9 w hS) | ((fail_if_success guard_hyp g10); intro g10 w hS) | ((fail_if_success guard_hyp g11); intro g11 w hS) | fail)) | ((first | (refine oB ?_; first | refine sB1 hS rfl rfl ?_ | refine sB2 hS rfl rfl ?_) | refine sN1 hS rfl ?_ | (refine oC ?_; first | refine sC0 hS rfl ?_ | refine sC1 hS rfl rfl ?_ | refine sC2 hS rfl rfl ?_ | refine sC3 hS rfl rfl rfl ?_ | refine sC4 hS rfl rfl rfl ?_)); clear hS; first | ((fail_if_success guard_hyp g1); intro g1 w hS) | ((fail_if_success guard_hyp g2); intro g2 w hS) | ((fail_if_success guard_hyp g3); intro g3 w hS) | ((fail_if_success guard_hyp g4); intro g4 w hS) | ((fail_if_success guard_hyp g5); intro g5 w hS) | ((fail_if_success guard_hyp g6); intro g6 w hS) | ((fail_if_success guard_hyp g7); intro g7 w hS) | ((fail_if_success guard_hyp g8); intro g8 w hS) | ((fail_if_success guard_hyp g9); intro g9 w hS) | ((fail_if_success guard_hyp g10); intro g10 w hS) | ((fail_if_success guard_hyp g11); intro g11 w hS) | fail) | fail)
          go_ret
          exact ⟨s ((qa : Int), ka), ⟨fun h => ⟨fun h2 => HK.out (by injection h2), HF.out.1 h⟩, fun h => HF.out.2 h.2⟩, rfl, hS.toExt⟩
      · have HQ := Lib.hid hq
        have e2 : ((qa : Int) == (qb : Int)) = false := by simp; omega
        generalize hza : (qa : Int) = za at hS e2 ⊢
        clear hq
        go_wp2_with (first | (refine oK ?_; refine sKb hS rfl rfl rfl rfl ?_) | (refine oL ?_; (first | refine sL1 hS rfl rfl rfl ?_ | refine sL2 hS rfl rfl rfl ?_ | refine sL3 hS rfl rfl ?_ | refine sL4 hS rfl rfl ?_ | refine sL5 hS rfl rfl ?_ | refine sL6 hS rfl rfl ?_ | refine sL7 hS rfl rfl ?_)) | (refine oS ?_; ((first | refine sS1 hS rfl rfl rfl ?_ | refine sS2 hS rfl rfl rfl ?_ | refine sS3 hS rfl rfl rfl ?_ | refine sS4 hS rfl rfl rfl ?_ | refine sS5 hS rfl rfl rfl ?_); clear hS; intro w hS)) | (refine oK ?_; (first | refine sK1 hS rfl rfl rfl ?_ | refine sK2 hS rfl rfl rfl ?_ | refine sK3 hS rfl rfl rfl ?_)) | (skip; (refine sW1 hS rfl ?_; clear hS; first | ((fail_if_success guard_hyp g1); intro g1 w hS) | ((fail_if_success guard_hyp g2); intro g2 w hS) | ((fail_if_success guard_hyp g3); intro g3 w hS) | ((fail_if_success guard_hyp g4); intro g4 w hS) | ((fail_if_success guard_hyp g5); intro g5 w hS) | ((fail_if_success guard_hyp g6); intro g6 w hS) | ((fail_if_success guard_hyp g7); intro g7 w hS) | ((fail_if_success guard_hyp g8); intro g8 w hS) | ((fail_if_success guard_hyp g9); intro g9 w hS) | ((fail_if_success guard_hyp g10); intro g10 w hS) | ((fail_if_success guard_hyp g11); intro g11 w hS) | fail)) | ((first | (refine oB ?_; first | refine sB1 hS rfl rfl ?_ | refine sB2 hS rfl rfl ?_) | refine sN1 hS rfl ?_ | (refine oC ?_; first | refine sC0 hS rfl ?_ | refine sC1 hS rfl rfl ?_ | refine sC2 hS rfl rfl ?_ | refine sC3 hS rfl rfl rfl ?_ | refine sC4 hS rfl rfl rfl ?_)); clear hS; first | ((fail_if_success guard_hyp g1); intro g1 w hS) | ((fail_if_success guard_hyp g2); intro g2 w hS) | ((fail_if_success guard_hyp g3); intro g3 w hS) | ((fail_if_success guard_hyp g4); intro g4 w hS) | ((fail_if_success guard_hyp g5); intro g5 w hS) | ((fail_if_success guard_hyp g6); intro g6 w hS) | ((fail_if_success guard_hyp g7); intro g7 w hS) | ((fail_if_success guard_hyp g8); intro g8 w hS) | ((fail_if_success guard_hyp g9); intro g9 w hS) | ((fail_if_success guard_hyp g10); intro g10 w hS) | ((fail_if_success guard_hyp g11); intro g11 w hS) | fail) | fail)
        go_ret
        refine ⟨s (za, ka), ⟨fun h => ⟨fun h2 => HQ.out (by injection h2), HF.out.1 (by rw [← hza] at h; exact h)⟩, fun h => by rw [← hza]; exact HF.out.2 h.2⟩, rfl, hS.toExt⟩
    · rw [List.concat_eq_append] at HI hS hl651
      obtain ⟨gk, rfl⟩ := hS.rowSome L (by simp)
      have hcap := hS.rowForm (some ⟨gk, 0, none⟩)
      obtain ⟨q, k⟩ := x
      have hok := HI.out.1.ok (q, k) (by simp)
      have HX := Lib.hid (And.intro HI.out.1.pop hok)
      have HM := Lib.hid HI.out.2
      clear HI
      simp only [List.length_append, List.length_singleton] at hS hl651 HM hcap
      have hlt1 : (l'.length : Int) < (l'.length : Int) + 1 := by omega
      have hcap1 : l'.length ≤ c := by omega
      go_upto_region 10 with (first | (refine oL ?_; refine sL8 hS rfl rfl last_pt rfl ?_) | (refine sV1 Try.underlying32 (by kernel_rfl) rfl rfl rfl hcap1 ?_) | (refine oL ?_; (first | refine sL1 hS rfl rfl rfl ?_ | refine sL2 hS rfl rfl rfl ?_ | refine sL3 hS rfl rfl ?_ | refine sL4 hS rfl rfl ?_ | refine sL5 hS rfl rfl ?_ | refine sL6 hS rfl rfl ?_ | refine sL7 hS rfl rfl ?_)) | (refine oS ?_; ((first | refine sS1 hS rfl rfl rfl ?_ | refine sS2 hS rfl rfl rfl ?_ | refine sS3 hS rfl rfl rfl ?_ | refine sS4 hS rfl rfl rfl ?_ | refine sS5 hS rfl rfl rfl ?_); clear hS; intro w hS)) | (refine oK ?_; (first | refine sK1 hS rfl rfl rfl ?_ | refine sK2 hS rfl rfl rfl ?_ | refine sK3 hS rfl rfl rfl ?_)) | (skip; (refine sW1 hS rfl ?_; clear hS; first | ((fail_if_success guard_hyp g1); intro g1 w hS) | ((fail_if_success guard_hyp g2); intro g2 w hS) | ((fail_if_success guard_hyp g3); intro g3 w hS) | ((fail_if_success guard_hyp g4); intro g4 w hS) | ((fail_if_success guard_hyp g5); intro g5 w hS) | ((fail_if_success guard_hyp g6); intro g6 w hS) | ((fail_if_success guard_hyp g7); intro g7 w hS) | ((fail_if_success guard_hyp g8); intro g8 w hS) | ((fail_if_success guard_hyp g9); intro g9 w hS) | ((fail_if_success guard_hyp g10); intro g10 w hS) | ((fail_if_success guard_hyp g11); intro g11 w hS) | fail)) | ((first | (refine oB ?_; first | refine sB1 hS rfl rfl ?_ | refine sB2 hS rfl rfl ?_) | refine sN1 hS rfl ?_ | (refine oC ?_; first | refine sC0 hS rfl ?_ | refine sC1 hS rfl rfl ?_ | refine sC2 hS rfl rfl ?_ | refine sC3 hS rfl rfl rfl ?_ | refine sC4 hS rfl rfl rfl ?_)); clear hS; first | ((fail_if_success guard_hyp g1); intro g1 w hS) | ((fail_if_success guard_hyp g2); intro g2 w hS) | ((fail_if_success guard_hyp g3); intro g3 w hS) | ((fail_if_success guard_hyp g4); intro g4 w hS) | ((fail_if_success guard_hyp g5); intro g5 w hS) | ((fail_if_success guard_hyp g6); intro g6 w hS) | ((fail_if_success guard_hyp g7); intro g7 w hS) | ((fail_if_success guard_hyp g8); intro g8 w hS) | ((fail_if_success guard_hyp g9); intro g9 w hS) | ((fail_if_success guard_hyp g10); intro g10 w hS) | ((fail_if_success guard_hyp g11); intro g11 w hS) | fail) | fail)
      replace hS := hS.rowCut (A := some ⟨gk, 0, none⟩) (n := l'.length + 1) (m := l'.length) (c := c) (by simp) (by omega)
      simp only [nB] at hS
      rw [cut_pt] at hS
      replace hS : St w0 NoM [mpc g5 (seenM s), blk g8 [.slice (some ⟨gk, 0, none⟩) l'.length c] 32, row (.slice (some ⟨gk, 0, none⟩) l'.length c) 37 2 l'.length (l'.flatMap ptCells), blk g6 [.map (some g5)] 69, blk g9 [.int .i64 (q : Int), .int .i64 k] 37, mpc gs (srcM p.arcs), blk gh [.slice A1 p.len.length c1, .map (some gs), .map (some gc)] 75, blk g3 [.int .i64 (qb : Int), .int .i64 kb] 37, blk g2 [.int .i64 (qa : Int), .int .i64 ka] 37] w := hS.re
      by_cases hk0 : k = 0
      · subst hk0
        have hsm : srcM p.arcs ((q : Int), 0) = none := by simp [srcM, srcF_zero]
        go_wp2_with (first | (refine oL ?_; (first | refine sL1 hS rfl rfl rfl ?_ | refine sL2 hS rfl rfl rfl ?_ | refine sL3 hS rfl rfl ?_ | refine sL4 hS rfl rfl ?_ | refine sL5 hS rfl rfl ?_ | refine sL6 hS rfl rfl ?_ | refine sL7 hS rfl rfl ?_)) | (refine oS ?_; ((first | refine sS1 hS rfl rfl rfl ?_ | refine sS2 hS rfl rfl rfl ?_ | refine sS3 hS rfl rfl rfl ?_ | refine sS4 hS rfl rfl rfl ?_ | refine sS5 hS rfl rfl rfl ?_); clear hS; intro w hS)) | (refine oK ?_; (first | refine sK1 hS rfl rfl rfl ?_ | refine sK2 hS rfl rfl rfl ?_ | refine sK3 hS rfl rfl rfl ?_)) | (skip; (refine sW1 hS rfl ?_; clear hS; first | ((fail_if_success guard_hyp g1); intro g1 w hS) | ((fail_if_success guard_hyp g2); intro g2 w hS) | ((fail_if_success guard_hyp g3); intro g3 w hS) | ((fail_if_success guard_hyp g4); intro g4 w hS) | ((fail_if_success guard_hyp g5); intro g5 w hS) | ((fail_if_success guard_hyp g6); intro g6 w hS) | ((fail_if_success guard_hyp g7); intro g7 w hS) | ((fail_if_success guard_hyp g8); intro g8 w hS) | ((fail_if_success guard_hyp g9); intro g9 w hS) | ((fail_if_success guard_hyp g10); intro g10 w hS) | ((fail_if_success guard_hyp g11); intro g11 w hS) | fail)) | ((first | (refine oB ?_; first | refine sB1 hS rfl rfl ?_ | refine sB2 hS rfl rfl ?_) | refine sN1 hS rfl ?_ | (refine oC ?_; first | refine sC0 hS rfl ?_ | refine sC1 hS rfl rfl ?_ | refine sC2 hS rfl rfl ?_ | refine sC3 hS rfl rfl rfl ?_ | refine sC4 hS rfl rfl rfl ?_)); clear hS; first | ((fail_if_success guard_hyp g1); intro g1 w hS) | ((fail_if_success guard_hyp g2); intro g2 w hS) | ((fail_if_success guard_hyp g3); intro g3 w hS) | ((fail_if_success guard_hyp g4); intro g4 w hS) | ((fail_if_success guard_hyp g5); intro g5 w hS) | ((fail_if_success guard_hyp g6); intro g6 w hS) | ((fail_if_success guard_hyp g7); intro g7 w hS) | ((fail_if_success guard_hyp g8); intro g8 w hS) | ((fail_if_success guard_hyp g9); intro g9 w hS) | ((fail_if_success guard_hyp g10); intro g10 w hS) | ((fail_if_success guard_hyp g11); intro g11 w hS) | fail) | fail)
        refine dr_start0 []  hS (by kernel_rfl) rfl ?_; clear hS; intro w hS
        refine dM hS 0 rfl rfl rfl ?_
        (try simp only [Act.put, nA, nB, nC])
        refine dP hS 1 rfl rfl ?_
        (try simp only [Act.put, nA, nB, nC])
        refine dP hS 2 rfl rfl ?_
        (try simp only [Act.put, nA, nB, nC])
        first | refine dL1 hS 3 rfl rfl rfl rfl ?_ | refine dL2 hS 3 rfl rfl rfl rfl ?_ | refine dL3 hS 3 rfl rfl rfl ?_ | refine dL4 hS 3 rfl rfl rfl ?_ | refine dL5 hS 3 rfl rfl rfl ?_ | refine dL6 hS 3 rfl rfl rfl ?_ | refine dL7 hS 3 rfl rfl rfl ?_
        (try simp only [Act.put, nA, nB, nC])
        first | refine dL1 hS 4 rfl rfl rfl rfl ?_ | refine dL2 hS 4 rfl rfl rfl rfl ?_ | refine dL3 hS 4 rfl rfl rfl ?_ | refine dL4 hS 4 rfl rfl rfl ?_ | refine dL5 hS 4 rfl rfl rfl ?_ | refine dL6 hS 4 rfl rfl rfl ?_ | refine dL7 hS 4 rfl rfl rfl ?_
        (try simp only [Act.put, nA, nB, nC])
        first | refine dK1 hS 5 rfl rfl rfl rfl ?_ | refine dK2 hS 5 rfl rfl rfl rfl ?_ | refine dK3 hS 5 rfl rfl rfl rfl ?_
        (try simp only [Act.put, nA, nB, nC])
        refine dM hS 6 rfl rfl rfl ?_
        (try simp only [Act.put, nA, nB, nC])
        refine dP hS 7 rfl rfl ?_
        (try simp only [Act.put, nA, nB, nC])
        refine dP hS 8 rfl rfl ?_
        (try simp only [Act.put, nA, nB, nC])
        refine dr_one 9 (by kernel_rfl) rfl ?_
        (refine sN1 hS rfl ?_; clear hS; first | ((fail_if_success guard_hyp g1); intro g1 w hS) | ((fail_if_success guard_hyp g2); intro g2 w hS) | ((fail_if_success guard_hyp g3); intro g3 w hS) | ((fail_if_success guard_hyp g4); intro g4 w hS) | ((fail_if_success guard_hyp g5); intro g5 w hS) | ((fail_if_success guard_hyp g6); intro g6 w hS) | ((fail_if_success guard_hyp g7); intro g7 w hS) | ((fail_if_success guard_hyp g8); intro g8 w hS) | ((fail_if_success guard_hyp g9); intro g9 w hS) | ((fail_if_success guard_hyp g10); intro g10 w hS) | ((fail_if_success guard_hyp g11); intro g11 w hS) | fail)
        (try simp only [Act.put, nA, nB, nC])
        refine dr_end hS ?_
        refine dr_one 10 (by kernel_rfl) rfl ?_
        ((first | refine sS1 hS rfl rfl rfl ?_ | refine sS2 hS rfl rfl rfl ?_ | refine sS3 hS rfl rfl rfl ?_ | refine sS4 hS rfl rfl rfl ?_ | refine sS5 hS rfl rfl rfl ?_); clear hS; intro w hS)
        (try simp only [Act.put, nA, nB, nC])
        refine dr_end hS ?_
        refine dA hS 11 rfl rfl rfl ?_
        (try simp only [Act.put, nA, nB, nC])
        refine dr_done (by kernel_rfl) ?_
        go_wp2_with (first | (refine oL ?_; (first | refine sL1 hS rfl rfl rfl ?_ | refine sL2 hS rfl rfl rfl ?_ | refine sL3 hS rfl rfl ?_ | refine sL4 hS rfl rfl ?_ | refine sL5 hS rfl rfl ?_ | refine sL6 hS rfl rfl ?_ | refine sL7 hS rfl rfl ?_)) | (refine oS ?_; ((first | refine sS1 hS rfl rfl rfl ?_ | refine sS2 hS rfl rfl rfl ?_ | refine sS3 hS rfl rfl rfl ?_ | refine sS4 hS rfl rfl rfl ?_ | refine sS5 hS rfl rfl rfl ?_); clear hS; intro w hS)) | (refine oK ?_; (first | refine sK1 hS rfl rfl rfl ?_ | refine sK2 hS rfl rfl rfl ?_ | refine sK3 hS rfl rfl rfl ?_)) | (skip; (refine sW1 hS rfl ?_; clear hS; first | ((fail_if_success guard_hyp g1); intro g1 w hS) | ((fail_if_success guard_hyp g2); intro g2 w hS) | ((fail_if_success guard_hyp g3); intro g3 w hS) | ((fail_if_success guard_hyp g4); intro g4 w hS) | ((fail_if_success guard_hyp g5); intro g5 w hS) | ((fail_if_success guard_hyp g6); intro g6 w hS) | ((fail_if_success guard_hyp g7); intro g7 w hS) | ((fail_if_success guard_hyp g8); intro g8 w hS) | ((fail_if_success guard_hyp g9); intro g9 w hS) | ((fail_if_success guard_hyp g10); intro g10 w hS) | ((fail_if_success guard_hyp g11); intro g11 w hS) | fail)) | ((first | (refine oB ?_; first | refine sB1 hS rfl rfl ?_ | refine sB2 hS rfl rfl ?_) | refine sN1 hS rfl ?_ | (refine oC ?_; first | refine sC0 hS rfl ?_ | refine sC1 hS rfl rfl ?_ | refine sC2 hS rfl rfl ?_ | refine sC3 hS rfl rfl rfl ?_ | refine sC4 hS rfl rfl rfl ?_)); clear hS; first | ((fail_if_success guard_hyp g1); intro g1 w hS) | ((fail_if_success guard_hyp g2); intro g2 w hS) | ((fail_if_success guard_hyp g3); intro g3 w hS) | ((fail_if_success guard_hyp g4); intro g4 w hS) | ((fail_if_success guard_hyp g5); intro g5 w hS) | ((fail_if_success guard_hyp g6); intro g6 w hS) | ((fail_if_success guard_hyp g7); intro g7 w hS) | ((fail_if_success guard_hyp g8); intro g8 w hS) | ((fail_if_success guard_hyp g9); intro g9 w hS) | ((fail_if_success guard_hyp g10); intro g10 w hS) | ((fail_if_success guard_hyp g11); intro g11 w hS) | fail) | fail)
        go_roundg (2 * unseen p s + l'.length)
        case measure => have := HM.out; omega
        refine ⟨s, l', some ⟨gk, 0, none⟩, c, by omega, Lib.hid ⟨HX.out.1.done (fun y hy => ?_), rfl, by have := HM.out; omega⟩, hS.re⟩
        rcases hy with ⟨h, _⟩ | h
        · exact absurd h (by simp)
        · rw [show key (q, (0 : Int)) = ((q : Int), 0) from rfl, srcF_zero] at h; cases h
      · have hk1 : 0 < k := by have := HX.out.2.1.2.1; simp only at this; omega
        have d1 : decide (0 < k) = true := decide_eq_true hk1
        have hk64 : k ≤ 64 := by have := HX.out.2.1.2.2; have := HP.out.2.1.hi q HX.out.2.1.1; simp only at *; omega
        have HV := Lib.hid (HX.out.1.visitV HP.out.2.1 (y := (q, k - 1)) ((show Pred p (q, k) (q, k - 1) from .inl ⟨hk1, rfl⟩).ok HP.out.2.1 HX.out.2.1) (HX.out.2.2.step (.inl ⟨hk1, rfl⟩)))
        have HVS := Lib.hid (vsS_self s (q, k - 1))
        have hvl := vsL_len s l' (q, k - 1)
        go_wp2_with (first | (refine oL ?_; (first | refine sL1 hS rfl rfl rfl ?_ | refine sL2 hS rfl rfl rfl ?_ | refine sL3 hS rfl rfl ?_ | refine sL4 hS rfl rfl ?_ | refine sL5 hS rfl rfl ?_ | refine sL6 hS rfl rfl ?_ | refine sL7 hS rfl rfl ?_)) | (refine oS ?_; ((first | refine sS1 hS rfl rfl rfl ?_ | refine sS2 hS rfl rfl rfl ?_ | refine sS3 hS rfl rfl rfl ?_ | refine sS4 hS rfl rfl rfl ?_ | refine sS5 hS rfl rfl rfl ?_); clear hS; intro w hS)) | (refine oK ?_; (first | refine sK1 hS rfl rfl rfl ?_ | refine sK2 hS rfl rfl rfl ?_ | refine sK3 hS rfl rfl rfl ?_)) | (skip; (refine sW1 hS rfl ?_; clear hS; first | ((fail_if_success guard_hyp g1); intro g1 w hS) | ((fail_if_success guard_hyp g2); intro g2 w hS) | ((fail_if_success guard_hyp g3); intro g3 w hS) | ((fail_if_success guard_hyp g4); intro g4 w hS) | ((fail_if_success guard_hyp g5); intro g5 w hS) | ((fail_if_success guard_hyp g6); intro g6 w hS) | ((fail_if_success guard_hyp g7); intro g7 w hS) | ((fail_if_success guard_hyp g8); intro g8 w hS) | ((fail_if_success guard_hyp g9); intro g9 w hS) | ((fail_if_success guard_hyp g10); intro g10 w hS) | ((fail_if_success guard_hyp g11); intro g11 w hS) | fail)) | ((first | (refine oB ?_; first | refine sB1 hS rfl rfl ?_ | refine sB2 hS rfl rfl ?_) | refine sN1 hS rfl ?_ | (refine oC ?_; first | refine sC0 hS rfl ?_ | refine sC1 hS rfl rfl ?_ | refine sC2 hS rfl rfl ?_ | refine sC3 hS rfl rfl rfl ?_ | refine sC4 hS rfl rfl rfl ?_)); clear hS; first | ((fail_if_success guard_hyp g1); intro g1 w hS) | ((fail_if_success guard_hyp g2); intro g2 w hS) | ((fail_if_success guard_hyp g3); intro g3 w hS) | ((fail_if_success guard_hyp g4); intro g4 w hS) | ((fail_if_success guard_hyp g5); intro g5 w hS) | ((fail_if_success guard_hyp g6); intro g6 w hS) | ((fail_if_success guard_hyp g7); intro g7 w hS) | ((fail_if_success guard_hyp g8); intro g8 w hS) | ((fail_if_success guard_hyp g9); intro g9 w hS) | ((fail_if_success guard_hyp g10); intro g10 w hS) | ((fail_if_success guard_hyp g11); intro g11 w hS) | fail) | fail)
        refine (bvisit_st g5 g8 g6 s l' (some ⟨gk, 0, none⟩) c (q, k - 1) hS (by omega)).mono ?_
        rintro e w ⟨rfl, L2, c2, hS1⟩
        replace hS := hS1
        clear hS1
        generalize vsS s (q, k - 1) = s1 at *
        generalize vsL s l' (q, k - 1) = l1 at *
        cases hsrc : srcF p.arcs ((q : Int), k) with
        | none =>
          have hsm : srcM p.arcs ((q : Int), k) = none := by simp [srcM, hsrc]
          go_wp2_with (first | (refine oL ?_; (first | refine sL1 hS rfl rfl rfl ?_ | refine sL2 hS rfl rfl rfl ?_ | refine sL3 hS rfl rfl ?_ | refine sL4 hS rfl rfl ?_ | refine sL5 hS rfl rfl ?_ | refine sL6 hS rfl rfl ?_ | refine sL7 hS rfl rfl ?_)) | (refine oS ?_; ((first | refine sS1 hS rfl rfl rfl ?_ | refine sS2 hS rfl rfl rfl ?_ | refine sS3 hS rfl rfl rfl ?_ | refine sS4 hS rfl rfl rfl ?_ | refine sS5 hS rfl rfl rfl ?_); clear hS; intro w hS)) | (refine oK ?_; (first | refine sK1 hS rfl rfl rfl ?_ | refine sK2 hS rfl rfl rfl ?_ | refine sK3 hS rfl rfl rfl ?_)) | (skip; (refine sW1 hS rfl ?_; clear hS; first | ((fail_if_success guard_hyp g1); intro g1 w hS) | ((fail_if_success guard_hyp g2); intro g2 w hS) | ((fail_if_success guard_hyp g3); intro g3 w hS) | ((fail_if_success guard_hyp g4); intro g4 w hS) | ((fail_if_success guard_hyp g5); intro g5 w hS) | ((fail_if_success guard_hyp g6); intro g6 w hS) | ((fail_if_success guard_hyp g7); intro g7 w hS) | ((fail_if_success guard_hyp g8); intro g8 w hS) | ((fail_if_success guard_hyp g9); intro g9 w hS) | ((fail_if_success guard_hyp g10); intro g10 w hS) | ((fail_if_success guard_hyp g11); intro g11 w hS) | fail)) | ((first | (refine oB ?_; first | refine sB1 hS rfl rfl ?_ | refine sB2 hS rfl rfl ?_) | refine sN1 hS rfl ?_ | (refine oC ?_; first | refine sC0 hS rfl ?_ | refine sC1 hS rfl rfl ?_ | refine sC2 hS rfl rfl ?_ | refine sC3 hS rfl rfl rfl ?_ | refine sC4 hS rfl rfl rfl ?_)); clear hS; first | ((fail_if_success guard_hyp g1); intro g1 w hS) | ((fail_if_success guard_hyp g2); intro g2 w hS) | ((fail_if_success guard_hyp g3); intro g3 w hS) | ((fail_if_success guard_hyp g4); intro g4 w hS) | ((fail_if_success guard_hyp g5); intro g5 w hS) | ((fail_if_success guard_hyp g6); intro g6 w hS) | ((fail_if_success guard_hyp g7); intro g7 w hS) | ((fail_if_success guard_hyp g8); intro g8 w hS) | ((fail_if_success guard_hyp g9); intro g9 w hS) | ((fail_if_success guard_hyp g10); intro g10 w hS) | ((fail_if_success guard_hyp g11); intro g11 w hS) | fail) | fail)
          refine dr_start0 []  hS (by kernel_rfl) rfl ?_; clear hS; intro w hS
          refine dM hS 0 rfl rfl rfl ?_
          (try simp only [Act.put, nA, nB, nC])
          refine dP hS 1 rfl rfl ?_
          (try simp only [Act.put, nA, nB, nC])
          refine dP hS 2 rfl rfl ?_
          (try simp only [Act.put, nA, nB, nC])
          first | refine dL1 hS 3 rfl rfl rfl rfl ?_ | refine dL2 hS 3 rfl rfl rfl rfl ?_ | refine dL3 hS 3 rfl rfl rfl ?_ | refine dL4 hS 3 rfl rfl rfl ?_ | refine dL5 hS 3 rfl rfl rfl ?_ | refine dL6 hS 3 rfl rfl rfl ?_ | refine dL7 hS 3 rfl rfl rfl ?_
          (try simp only [Act.put, nA, nB, nC])
          first | refine dL1 hS 4 rfl rfl rfl rfl ?_ | refine dL2 hS 4 rfl rfl rfl rfl ?_ | refine dL3 hS 4 rfl rfl rfl ?_ | refine dL4 hS 4 rfl rfl rfl ?_ | refine dL5 hS 4 rfl rfl rfl ?_ | refine dL6 hS 4 rfl rfl rfl ?_ | refine dL7 hS 4 rfl rfl rfl ?_
          (try simp only [Act.put, nA, nB, nC])
          first | refine dK1 hS 5 rfl rfl rfl rfl ?_ | refine dK2 hS 5 rfl rfl rfl rfl ?_ | refine dK3 hS 5 rfl rfl rfl rfl ?_
          (try simp only [Act.put, nA, nB, nC])
          refine dM hS 6 rfl rfl rfl ?_
          (try simp only [Act.put, nA, nB, nC])
          refine dP hS 7 rfl rfl ?_
          (try simp only [Act.put, nA, nB, nC])
          refine dP hS 8 rfl rfl ?_
          (try simp only [Act.put, nA, nB, nC])
          refine dr_one 9 (by kernel_rfl) rfl ?_
          (refine sN1 hS rfl ?_; clear hS; first | ((fail_if_success guard_hyp g1); intro g1 w hS) | ((fail_if_success guard_hyp g2); intro g2 w hS) | ((fail_if_success guard_hyp g3); intro g3 w hS) | ((fail_if_success guard_hyp g4); intro g4 w hS) | ((fail_if_success guard_hyp g5); intro g5 w hS) | ((fail_if_success guard_hyp g6); intro g6 w hS) | ((fail_if_success guard_hyp g7); intro g7 w hS) | ((fail_if_success guard_hyp g8); intro g8 w hS) | ((fail_if_success guard_hyp g9); intro g9 w hS) | ((fail_if_success guard_hyp g10); intro g10 w hS) | ((fail_if_success guard_hyp g11); intro g11 w hS) | fail)
          (try simp only [Act.put, nA, nB, nC])
          refine dr_end hS ?_
          refine dr_one 10 (by kernel_rfl) rfl ?_
          ((first | refine sS1 hS rfl rfl rfl ?_ | refine sS2 hS rfl rfl rfl ?_ | refine sS3 hS rfl rfl rfl ?_ | refine sS4 hS rfl rfl rfl ?_ | refine sS5 hS rfl rfl rfl ?_); clear hS; intro w hS)
          (try simp only [Act.put, nA, nB, nC])
          refine dr_end hS ?_
          refine dA hS 11 rfl rfl rfl ?_
          (try simp only [Act.put, nA, nB, nC])
          refine dr_done (by kernel_rfl) ?_
          go_wp2_with (first | (refine oL ?_; (first | refine sL1 hS rfl rfl rfl ?_ | refine sL2 hS rfl rfl rfl ?_ | refine sL3 hS rfl rfl ?_ | refine sL4 hS rfl rfl ?_ | refine sL5 hS rfl rfl ?_ | refine sL6 hS rfl rfl ?_ | refine sL7 hS rfl rfl ?_)) | (refine oS ?_; ((first | refine sS1 hS rfl rfl rfl ?_ | refine sS2 hS rfl rfl rfl ?_ | refine sS3 hS rfl rfl rfl ?_ | refine sS4 hS rfl rfl rfl ?_ | refine sS5 hS rfl rfl rfl ?_); clear hS; intro w hS)) | (refine oK ?_; (first | refine sK1 hS rfl rfl rfl ?_ | refine sK2 hS rfl rfl rfl ?_ | refine sK3 hS rfl rfl rfl ?_)) | (skip; (refine sW1 hS rfl ?_; clear hS; first | ((fail_if_success guard_hyp g1); intro g1 w hS) | ((fail_if_success guard_hyp g2); intro g2 w hS) | ((fail_if_success guard_hyp g3); intro g3 w hS) | ((fail_if_success guard_hyp g4); intro g4 w hS) | ((fail_if_success guard_hyp g5); intro g5 w hS) | ((fail_if_success guard_hyp g6); intro g6 w hS) | ((fail_if_success guard_hyp g7); intro g7 w hS) | ((fail_if_success guard_hyp g8); intro g8 w hS) | ((fail_if_success guard_hyp g9); intro g9 w hS) | ((fail_if_success guard_hyp g10); intro g10 w hS) | ((fail_if_success guard_hyp g11); intro g11 w hS) | fail)) | ((first | (refine oB ?_; first | refine sB1 hS rfl rfl ?_ | refine sB2 hS rfl rfl ?_) | refine sN1 hS rfl ?_ | (refine oC ?_; first | refine sC0 hS rfl ?_ | refine sC1 hS rfl rfl ?_ | refine sC2 hS rfl rfl ?_ | refine sC3 hS rfl rfl rfl ?_ | refine sC4 hS rfl rfl rfl ?_)); clear hS; first | ((fail_if_success guard_hyp g1); intro g1 w hS) | ((fail_if_success guard_hyp g2); intro g2 w hS) | ((fail_if_success guard_hyp g3); intro g3 w hS) | ((fail_if_success guard_hyp g4); intro g4 w hS) | ((fail_if_success guard_hyp g5); intro g5 w hS) | ((fail_if_success guard_hyp g6); intro g6 w hS) | ((fail_if_success guard_hyp g7); intro g7 w hS) | ((fail_if_success guard_hyp g8); intro g8 w hS) | ((fail_if_success guard_hyp g9); intro g9 w hS) | ((fail_if_success guard_hyp g10); intro g10 w hS) | ((fail_if_success guard_hyp g11); intro g11 w hS) | fail) | fail)
          go_roundg (2 * unseen p s1 + l1.length)
          case measure => have := HM.out; have := HV.out.2; omega
          refine ⟨s1, l1, L2, c2, by omega, Lib.hid ⟨HV.out.1.done (fun y hy => ?_), rfl, by have := HM.out; have := HV.out.2; omega⟩, hS.re⟩
          rcases hy with ⟨_, rfl⟩ | h
          · exact HVS.out
          · rw [show key (q, k) = ((q : Int), k) from rfl, hsrc] at h; cases h
        | some y =>
          obtain ⟨q2, k2⟩ := y
          have hsm : srcM p.arcs ((q : Int), k) = some (.agg #[.int .i64 (q2 : Int), .int .i64 k2]) := by simp [srcM, hsrc]
          have HV2 := Lib.hid (HV.out.1.visitV HP.out.2.1 (y := (q2, k2)) ((show Pred p (q, k) (q2, k2) from .inr hsrc).ok HP.out.2.1 HX.out.2.1) (HX.out.2.2.step (.inr hsrc)))
          have HVS2 := Lib.hid (And.intro (vsS_self s1 (q2, k2)) (vsS_mono s1 (q2, k2) HVS.out))
          have hvl2 := vsL_len s1 l1 (q2, k2)
          go_wp2_with (first | (refine oL ?_; (first | refine sL1 hS rfl rfl rfl ?_ | refine sL2 hS rfl rfl rfl ?_ | refine sL3 hS rfl rfl ?_ | refine sL4 hS rfl rfl ?_ | refine sL5 hS rfl rfl ?_ | refine sL6 hS rfl rfl ?_ | refine sL7 hS rfl rfl ?_)) | (refine oS ?_; ((first | refine sS1 hS rfl rfl rfl ?_ | refine sS2 hS rfl rfl rfl ?_ | refine sS3 hS rfl rfl rfl ?_ | refine sS4 hS rfl rfl rfl ?_ | refine sS5 hS rfl rfl rfl ?_); clear hS; intro w hS)) | (refine oK ?_; (first | refine sK1 hS rfl rfl rfl ?_ | refine sK2 hS rfl rfl rfl ?_ | refine sK3 hS rfl rfl rfl ?_)) | (skip; (refine sW1 hS rfl ?_; clear hS; first | ((fail_if_success guard_hyp g1); intro g1 w hS) | ((fail_if_success guard_hyp g2); intro g2 w hS) | ((fail_if_success guard_hyp g3); intro g3 w hS) | ((fail_if_success guard_hyp g4); intro g4 w hS) | ((fail_if_success guard_hyp g5); intro g5 w hS) | ((fail_if_success guard_hyp g6); intro g6 w hS) | ((fail_if_success guard_hyp g7); intro g7 w hS) | ((fail_if_success guard_hyp g8); intro g8 w hS) | ((fail_if_success guard_hyp g9); intro g9 w hS) | ((fail_if_success guard_hyp g10); intro g10 w hS) | ((fail_if_success guard_hyp g11); intro g11 w hS) | fail)) | ((first | (refine oB ?_; first | refine sB1 hS rfl rfl ?_ | refine sB2 hS rfl rfl ?_) | refine sN1 hS rfl ?_ | (refine oC ?_; first | refine sC0 hS rfl ?_ | refine sC1 hS rfl rfl ?_ | refine sC2 hS rfl rfl ?_ | refine sC3 hS rfl rfl rfl ?_ | refine sC4 hS rfl rfl rfl ?_)); clear hS; first | ((fail_if_success guard_hyp g1); intro g1 w hS) | ((fail_if_success guard_hyp g2); intro g2 w hS) | ((fail_if_success guard_hyp g3); intro g3 w hS) | ((fail_if_success guard_hyp g4); intro g4 w hS) | ((fail_if_success guard_hyp g5); intro g5 w hS) | ((fail_if_success guard_hyp g6); intro g6 w hS) | ((fail_if_success guard_hyp g7); intro g7 w hS) | ((fail_if_success guard_hyp g8); intro g8 w hS) | ((fail_if_success guard_hyp g9); intro g9 w hS) | ((fail_if_success guard_hyp g10); intro g10 w hS) | ((fail_if_success guard_hyp g11); intro g11 w hS) | fail) | fail)
          refine dr_start0 []  hS (by kernel_rfl) rfl ?_; clear hS; intro w hS
          refine dM hS 0 rfl rfl rfl ?_
          (try simp only [Act.put, nA, nB, nC])
          refine dP hS 1 rfl rfl ?_
          (try simp only [Act.put, nA, nB, nC])
          refine dP hS 2 rfl rfl ?_
          (try simp only [Act.put, nA, nB, nC])
          first | refine dL1 hS 3 rfl rfl rfl rfl ?_ | refine dL2 hS 3 rfl rfl rfl rfl ?_ | refine dL3 hS 3 rfl rfl rfl ?_ | refine dL4 hS 3 rfl rfl rfl ?_ | refine dL5 hS 3 rfl rfl rfl ?_ | refine dL6 hS 3 rfl rfl rfl ?_ | refine dL7 hS 3 rfl rfl rfl ?_
          (try simp only [Act.put, nA, nB, nC])
          first | refine dL1 hS 4 rfl rfl rfl rfl ?_ | refine dL2 hS 4 rfl rfl rfl rfl ?_ | refine dL3 hS 4 rfl rfl rfl ?_ | refine dL4 hS 4 rfl rfl rfl ?_ | refine dL5 hS 4 rfl rfl rfl ?_ | refine dL6 hS 4 rfl rfl rfl ?_ | refine dL7 hS 4 rfl rfl rfl ?_
          (try simp only [Act.put, nA, nB, nC])
          first | refine dK1 hS 5 rfl rfl rfl rfl ?_ | refine dK2 hS 5 rfl rfl rfl rfl ?_ | refine dK3 hS 5 rfl rfl rfl rfl ?_
          (try simp only [Act.put, nA, nB, nC])
          refine dM hS 6 rfl rfl rfl ?_
          (try simp only [Act.put, nA, nB, nC])
          refine dP hS 7 rfl rfl ?_
          (try simp only [Act.put, nA, nB, nC])
          refine dP hS 8 rfl rfl ?_
          (try simp only [Act.put, nA, nB, nC])
          refine dr_one 9 (by kernel_rfl) rfl ?_
          (refine sN1 hS rfl ?_; clear hS; first | ((fail_if_success guard_hyp g1); intro g1 w hS) | ((fail_if_success guard_hyp g2); intro g2 w hS) | ((fail_if_success guard_hyp g3); intro g3 w hS) | ((fail_if_success guard_hyp g4); intro g4 w hS) | ((fail_if_success guard_hyp g5); intro g5 w hS) | ((fail_if_success guard_hyp g6); intro g6 w hS) | ((fail_if_success guard_hyp g7); intro g7 w hS) | ((fail_if_success guard_hyp g8); intro g8 w hS) | ((fail_if_success guard_hyp g9); intro g9 w hS) | ((fail_if_success guard_hyp g10); intro g10 w hS) | ((fail_if_success guard_hyp g11); intro g11 w hS) | fail)
          (try simp only [Act.put, nA, nB, nC])
          refine dr_end hS ?_
          refine dr_one 10 (by kernel_rfl) rfl ?_
          ((first | refine sS1 hS rfl rfl rfl ?_ | refine sS2 hS rfl rfl rfl ?_ | refine sS3 hS rfl rfl rfl ?_ | refine sS4 hS rfl rfl rfl ?_ | refine sS5 hS rfl rfl rfl ?_); clear hS; intro w hS)
          (try simp only [Act.put, nA, nB, nC])
          refine dr_end hS ?_
          refine dA hS 11 rfl rfl rfl ?_
          (try simp only [Act.put, nA, nB, nC])
          refine dr_done (by kernel_rfl) ?_
          replace hS : St w0 NoM [mpc g5 (seenM s1), blk g8 [.slice L2 l1.length c2] 32, row (.slice L2 l1.length c2) 37 2 l1.length (l1.flatMap ptCells), blk g6 [.map (some g5)] 69, blk g10 [.int .i64 (q2 : Int), .int .i64 k2] 37, mpc gs (srcM p.arcs), blk gh [.slice A1 p.len.length c1, .map (some gs), .map (some gc)] 75, blk g3 [.int .i64 (qb : Int), .int .i64 kb] 37, blk g2 [.int .i64 (qa : Int), .int .i64 ka] 37] w := hS.re
          go_wp2_with (first | (refine oL ?_; (first | refine sL1 hS rfl rfl rfl ?_ | refine sL2 hS rfl rfl rfl ?_ | refine sL3 hS rfl rfl ?_ | refine sL4 hS rfl rfl ?_ | refine sL5 hS rfl rfl ?_ | refine sL6 hS rfl rfl ?_ | refine sL7 hS rfl rfl ?_)) | (refine oS ?_; ((first | refine sS1 hS rfl rfl rfl ?_ | refine sS2 hS rfl rfl rfl ?_ | refine sS3 hS rfl rfl rfl ?_ | refine sS4 hS rfl rfl rfl ?_ | refine sS5 hS rfl rfl rfl ?_); clear hS; intro w hS)) | (refine oK ?_; (first | refine sK1 hS rfl rfl rfl ?_ | refine sK2 hS rfl rfl rfl ?_ | refine sK3 hS rfl rfl rfl ?_)) | (skip; (refine sW1 hS rfl ?_; clear hS; first | ((fail_if_success guard_hyp g1); intro g1 w hS) | ((fail_if_success guard_hyp g2); intro g2 w hS) | ((fail_if_success guard_hyp g3); intro g3 w hS) | ((fail_if_success guard_hyp g4); intro g4 w hS) | ((fail_if_success guard_hyp g5); intro g5 w hS) | ((fail_if_success guard_hyp g6); intro g6 w hS) | ((fail_if_success guard_hyp g7); intro g7 w hS) | ((fail_if_success guard_hyp g8); intro g8 w hS) | ((fail_if_success guard_hyp g9); intro g9 w hS) | ((fail_if_success guard_hyp g10); intro g10 w hS) | ((fail_if_success guard_hyp g11); intro g11 w hS) | fail)) | ((first | (refine oB ?_; first | refine sB1 hS rfl rfl ?_ | refine sB2 hS rfl rfl ?_) | refine sN1 hS rfl ?_ | (refine oC ?_; first | refine sC0 hS rfl ?_ | refine sC1 hS rfl rfl ?_ | refine sC2 hS rfl rfl ?_ | refine sC3 hS rfl rfl rfl ?_ | refine sC4 hS rfl rfl rfl ?_)); clear hS; first | ((fail_if_success guard_hyp g1); intro g1 w hS) | ((fail_if_success guard_hyp g2); intro g2 w hS) | ((fail_if_success guard_hyp g3); intro g3 w hS) | ((fail_if_success guard_hyp g4); intro g4 w hS) | ((fail_if_success guard_hyp g5); intro g5 w hS) | ((fail_if_success guard_hyp g6); intro g6 w hS) | ((fail_if_success guard_hyp g7); intro g7 w hS) | ((fail_if_success guard_hyp g8); intro g8 w hS) | ((fail_if_success guard_hyp g9); intro g9 w hS) | ((fail_if_success guard_hyp g10); intro g10 w hS) | ((fail_if_success guard_hyp g11); intro g11 w hS) | fail) | fail)
          refine (bvisit_st g5 g8 g6 s1 l1 L2 c2 (q2, k2) hS (by omega)).mono ?_
          rintro e w ⟨rfl, L3, c3, hS1⟩
          replace hS := hS1
          clear hS1
          generalize vsS s1 (q2, k2) = s2 at *
          generalize vsL s1 l1 (q2, k2) = l2 at *
          go_wp2_with (first | (refine oL ?_; (first | refine sL1 hS rfl rfl rfl ?_ | refine sL2 hS rfl rfl rfl ?_ | refine sL3 hS rfl rfl ?_ | refine sL4 hS rfl rfl ?_ | refine sL5 hS rfl rfl ?_ | refine sL6 hS rfl rfl ?_ | refine sL7 hS rfl rfl ?_)) | (refine oS ?_; ((first | refine sS1 hS rfl rfl rfl ?_ | refine sS2 hS rfl rfl rfl ?_ | refine sS3 hS rfl rfl rfl ?_ | refine sS4 hS rfl rfl rfl ?_ | refine sS5 hS rfl rfl rfl ?_); clear hS; intro w hS)) | (refine oK ?_; (first | refine sK1 hS rfl rfl rfl ?_ | refine sK2 hS rfl rfl rfl ?_ | refine sK3 hS rfl rfl rfl ?_)) | (skip; (refine sW1 hS rfl ?_; clear hS; first | ((fail_if_success guard_hyp g1); intro g1 w hS) | ((fail_if_success guard_hyp g2); intro g2 w hS) | ((fail_if_success guard_hyp g3); intro g3 w hS) | ((fail_if_success guard_hyp g4); intro g4 w hS) | ((fail_if_success guard_hyp g5); intro g5 w hS) | ((fail_if_success guard_hyp g6); intro g6 w hS) | ((fail_if_success guard_hyp g7); intro g7 w hS) | ((fail_if_success guard_hyp g8); intro g8 w hS) | ((fail_if_success guard_hyp g9); intro g9 w hS) | ((fail_if_success guard_hyp g10); intro g10 w hS) | ((fail_if_success guard_hyp g11); intro g11 w hS) | fail)) | ((first | (refine oB ?_; first | refine sB1 hS rfl rfl ?_ | refine sB2 hS rfl rfl ?_) | refine sN1 hS rfl ?_ | (refine oC ?_; first | refine sC0 hS rfl ?_ | refine sC1 hS rfl rfl ?_ | refine sC2 hS rfl rfl ?_ | refine sC3 hS rfl rfl rfl ?_ | refine sC4 hS rfl rfl rfl ?_)); clear hS; first | ((fail_if_success guard_hyp g1); intro g1 w hS) | ((fail_if_success guard_hyp g2); intro g2 w hS) | ((fail_if_success guard_hyp g3); intro g3 w hS) | ((fail_if_success guard_hyp g4); intro g4 w hS) | ((fail_if_success guard_hyp g5); intro g5 w hS) | ((fail_if_success guard_hyp g6); intro g6 w hS) | ((fail_if_success guard_hyp g7); intro g7 w hS) | ((fail_if_success guard_hyp g8); intro g8 w hS) | ((fail_if_success guard_hyp g9); intro g9 w hS) | ((fail_if_success guard_hyp g10); intro g10 w hS) | ((fail_if_success guard_hyp g11); intro g11 w hS) | fail) | fail)
          go_roundg (2 * unseen p s2 + l2.length)
          case measure => have := HM.out; have := HV.out.2; have := HV2.out.2; omega
          refine ⟨s2, l2, L3, c3, by have := HM.out; have := HV.out.2; have := HV2.out.2; omega, Lib.hid ⟨HV2.out.1.done (fun y hy => ?_), rfl, by have := HM.out; have := HV.out.2; have := HV2.out.2; omega⟩, hS.re⟩
          rcases hy with ⟨_, rfl⟩ | h
          · exact HVS2.out.2
          · rw [show key (q, k) = ((q : Int), k) from rfl, hsrc] at h
            injection h with h
            subst h
            exact HVS2.out.1
end Go.Proofs.Ytkflmichekpfbaa
