/- depend: intervals, extended, Vector. Conditions: the pattern is good and lies in memory, the numbers are in range. -/
import Derived.Test.YtkflmichekpfbaaDepA
namespace Go.Proofs.Ytkflmichekpfbaa
open Go.RowKit
set_option linter.unusedVariables false
set_option linter.unusedSimpArgs false
set_option linter.unusedSectionVars false

theorem vec5_at {p : Pat} {c zs : List Int} (hn : p.len.length ≤ 5) (hl : zs.length = 5) (h : ∀ s, nth zs s = if s < p.len.length then (below (rowOf p.ck s) (nth c s) : Int) else 0) : zs = vec5 p c := by
  refine le_antisymm (n := 5) hl (by simp [vec5]) (fun k hk => ?_) (fun k hk => ?_) <;>
  · rw [h, vec5, nth_map_range, if_pos hk]; exact Int.le_refl _
theorem clock_n {S : Nat → Prop} {A1 A2 A3 : Option Addr} {c1 c2 c3 n1 n2 n3 : Nat} {p : Pat} {q : Nat} {z k : Int} {w : World} (e1 : p.len.length = n1) (e2 : p.ck.length = n2) (e3 : p.arcs.length = n3) (hz : z = q) (hp : PatAt S w ⟨A1, c1, A2, c2, A3, c3⟩ p) (hg : Good p) (hpt : PtOk p (q, k)) :
    Calls Try.prog 20 #[.agg #[.slice A1 n1 c1, .slice A2 n2 c2, .slice A3 n3 c3], .int .i64 z, .int .i64 k] w fun e w' => ∃ (L : Option Addr) (cap : Nat) (c : List Int), e = .returned (.slice L n1 cap) ∧ IsClk p q k c ∧ c.length = n1 ∧ RI (fun b => w.heap.size ≤ b ∧ b < w'.heap.size) w' L c ∧ capOk n1 cap ∧ Ext w w' := by
  subst e1 e2 e3 hz
  refine (clock_any ⟨A1, c1, A2, c2, A3, c3⟩ p q k w hp hg hpt).mono ?_
  rintro e w' ⟨L, cap, c, h1, h2, h3, h4, h5⟩
  exact ⟨L, cap, c, h1, h2, h2.len, h3.into (fun b hb hl => ⟨⟨hb, hl⟩, rfl⟩), h4, h5⟩
theorem interval_nn {S : Nat → Prop} {A1 A2 A3 : Option Addr} {c1 c2 c3 n1 n2 n3 : Nat} {w : World} {ck : List (List Int)} {q : Nat} {z x : Int} (hn : ck.length = n2) (hz : z = q) (h2 : RR S w A2 ck) (hq : q < n2) (hck : n2 ≤ 5) (hl : (rowOf ck q).length ≤ 100) :
    Calls Try.prog 86 #[.agg #[.slice A1 n1 c1, .slice A2 n2 c2, .slice A3 n3 c3], .int .i64 z, .int .i64 x] w fun e w' => e = .returned (.int .i64 (below (rowOf ck q) x : Int)) ∧ Ext w w' := by
  subst hn hz
  rw [rowOf_eq hq] at *
  exact interval_any A1 A2 A3 c1 c2 c3 n1 n3 ck q x w h2 hq hck hl
set_option maxRecDepth 100000 in
set_option maxHeartbeats 3200000 in
theorem intervals_any {S : Nat → Prop} (v : PV) (p : Pat) (q : Nat) (k : Int) (w0 : World) (hp : PatAt S w0 v p) (hg : Good p) (hpt : PtOk p (q, k)) :
    Calls Try.prog 72 #[v.val p, .int .i64 (q : Int), .int .i64 k] w0 fun e w' => ∃ c, IsClk p q k c ∧ e = .returned (.agg (ints (vec5 p c)).toArray) ∧ Ext w0 w' := by
  have hS := St.start w0 NoM
  have hn5 := hg.n5
  have hck := hg.ckl
  have hrow : ∀ s, s < p.len.length → (rowOf p.ck s).length ≤ 100 := fun s hs => by have := hg.rowLen hs; omega
  have HP := Lib.hid (And.intro hp (And.intro hg (And.intro hpt (And.intro hck hrow))))
  have hck5 : p.ck.length ≤ 5 := by rw [hck]; exact hn5
  clear hp hg hpt hck hrow
  obtain ⟨A1, c1, A2, c2, A3, c3⟩ := v
  simp only [PV.val] at *
  go_enter Try.func72, Try.ntmps72
  go_wp2_with (first | (go_at_call 20; refine (clock_n rfl rfl rfl rfl (HP.out.1.ext hS.toExt) HP.out.2.1 HP.out.2.2.1).mono ?_; rintro e w1 ⟨L, cap, c, rfl, hclk, hcl, hri, hcap, hx1⟩; replace hS := hS.frozNew hx1; have HC := Lib.hid hclk; have HCL := Lib.hid hcl; clear hclk hcl) | (refine oL ?_; (first | refine sL1 hS rfl rfl rfl ?_ | refine sL2 hS rfl rfl rfl ?_ | refine sL3 hS rfl rfl ?_ | refine sL4 hS rfl rfl ?_ | refine sL5 hS rfl rfl ?_ | refine sL6 hS rfl rfl ?_ | refine sL7 hS rfl rfl ?_)) | (refine oS ?_; ((first | refine sS1 hS rfl rfl rfl ?_ | refine sS2 hS rfl rfl rfl ?_ | refine sS3 hS rfl rfl rfl ?_ | refine sS4 hS rfl rfl rfl ?_ | refine sS5 hS rfl rfl rfl ?_); clear hS; intro w hS)) | ((first | (refine oB ?_; first | refine sB1 hS rfl rfl ?_ | refine sB2 hS rfl rfl ?_) | refine sN1 hS rfl ?_); clear hS; first | ((fail_if_success guard_hyp g1); intro g1 w hS) | ((fail_if_success guard_hyp g2); intro g2 w hS) | ((fail_if_success guard_hyp g3); intro g3 w hS) | ((fail_if_success guard_hyp g4); intro g4 w hS) | fail) | fail)
  have hS : St w0 NoM [froz (fun k => w.heap.size ≤ k ∧ k < w1.heap.size) w1, blk g3 (ints [0, 0, 0, 0, 0]) 81, blk g2 [.int .i64 0, .int .i64 0, .int .i64 0, .int .i64 0, .int .i64 0] 81, blk g1 [.slice A1 p.len.length c1, .slice A2 p.ck.length c2, .slice A3 p.arcs.length c3] 28] w1 := hS
  go_loopw [15] (fun s15 wr => ∃ (j : Nat) (zs : List Int), j ≤ p.len.length ∧ zs.length = 5 ∧ Hid (∀ s, nth zs s = if s < j then (below (rowOf p.ck s) (nth c s) : Int) else 0) ∧ s15 = .int .i64 j ∧ St w0 NoM [froz (fun k => w.heap.size ≤ k ∧ k < w1.heap.size) w1, blk g3 (ints zs) 81, blk g2 [.int .i64 0, .int .i64 0, .int .i64 0, .int .i64 0, .int .i64 0] 81, blk g1 [.slice A1 p.len.length c1, .slice A2 p.ck.length c2, .slice A3 p.arcs.length c3] 28] wr) (fun s15 _ => p.len.length - (intOf s15).toNat)
  case atStart =>
    refine ⟨0, [0, 0, 0, 0, 0], by omega, rfl, Lib.hid (fun s => ?_), rfl, hS⟩
    rw [if_neg (by omega)]
    match s with
    | 0 | 1 | 2 | 3 | 4 => rfl
    | s + 5 => simp [nth]
  case round =>
    obtain ⟨j, zs, hj, hzl, HZ, rfl, hS⟩ := hrel
    by_cases hlt : j < p.len.length
    · obtain ⟨b2, o2, rfl, hfc⟩ := hri.fc (k := j) (by rw [HCL.out]; exact hlt)
      have hj5 : (j : Int) < 5 := by omega
      have hjz : j < zs.length := by omega
      generalize hm : nth c j = m at *
      go_wp2_with (first | (refine oS ?_; refine sS1 hS rfl rfl rfl ?_ rfl (by simp; omega); clear hS; intro w hS) | (go_at_call 86; refine (interval_nn (q := j) rfl rfl (HP.out.1.ck.into (Into.ofExt hS.toExt)) (by rw [HP.out.2.2.2.1]; exact hlt) hck5 (HP.out.2.2.2.2 j hlt)).mono ?_; rintro e w ⟨rfl, hx1⟩; replace hS := hS.ext hx1; have hbe := below_le (rowOf p.ck j) m; have HB := Lib.hid (Eq.refl (below (rowOf p.ck j) m)); generalize hbl : below (rowOf p.ck j) m = bl at *) | (refine oL ?_; (first | refine sL1 hS rfl rfl rfl ?_ | refine sL2 hS rfl rfl rfl ?_ | refine sL3 hS rfl rfl ?_ | refine sL4 hS rfl rfl ?_ | refine sL5 hS rfl rfl ?_ | refine sL6 hS rfl rfl ?_ | refine sL7 hS rfl rfl ?_)) | (refine oS ?_; ((first | refine sS1 hS rfl rfl rfl ?_ | refine sS2 hS rfl rfl rfl ?_ | refine sS3 hS rfl rfl rfl ?_ | refine sS4 hS rfl rfl rfl ?_ | refine sS5 hS rfl rfl rfl ?_); clear hS; intro w hS)) | ((first | (refine oB ?_; first | refine sB1 hS rfl rfl ?_ | refine sB2 hS rfl rfl ?_) | refine sN1 hS rfl ?_); clear hS; first | ((fail_if_success guard_hyp g1); intro g1 w hS) | ((fail_if_success guard_hyp g2); intro g2 w hS) | ((fail_if_success guard_hyp g3); intro g3 w hS) | ((fail_if_success guard_hyp g4); intro g4 w hS) | fail) | fail)
      go_roundw
      case measure => simp [intOf]; omega
      refine ⟨j + 1, zs.set j (bl : Int), by omega, by simp [hzl], Lib.hid (fun s => ?_), by go_num, ?_⟩
      · rw [nth_set hjz, HZ.out]
        by_cases h1 : j = s
        · subst h1
          rw [if_pos rfl, if_pos (by omega), hm, hbl]
        · rw [if_neg h1]
          by_cases h2 : s < j
          · rw [if_pos h2, if_pos (by omega)]
          · rw [if_neg h2, if_neg (by omega)]
      · have e : (ints zs).set j (.int .i64 (bl : Int)) = ints (zs.set j (bl : Int)) := by simp [ints, List.map_set]
        rw [← e]; exact hS
    · have hje : j = p.len.length := by omega
      subst hje
      have hv := vec5_at hn5 hzl HZ.out
      have HV := Lib.hid hv
      clear hv
      obtain ⟨x0, x1, x2, x3, x4, rfl⟩ := five hzl
      simp only [ints, List.map_cons, List.map_nil] at hS
      clear HZ hzl
      go_wp2_with (first | (refine oL ?_; (first | refine sL1 hS rfl rfl rfl ?_ | refine sL2 hS rfl rfl rfl ?_ | refine sL3 hS rfl rfl ?_ | refine sL4 hS rfl rfl ?_ | refine sL5 hS rfl rfl ?_ | refine sL6 hS rfl rfl ?_ | refine sL7 hS rfl rfl ?_)) | (refine oS ?_; ((first | refine sS1 hS rfl rfl rfl ?_ | refine sS2 hS rfl rfl rfl ?_ | refine sS3 hS rfl rfl rfl ?_ | refine sS4 hS rfl rfl rfl ?_ | refine sS5 hS rfl rfl rfl ?_); clear hS; intro w hS)) | ((first | (refine oB ?_; first | refine sB1 hS rfl rfl ?_ | refine sB2 hS rfl rfl ?_) | refine sN1 hS rfl ?_); clear hS; first | ((fail_if_success guard_hyp g1); intro g1 w hS) | ((fail_if_success guard_hyp g2); intro g2 w hS) | ((fail_if_success guard_hyp g3); intro g3 w hS) | ((fail_if_success guard_hyp g4); intro g4 w hS) | fail) | fail)
      refine st_retC hS rfl rfl rfl rfl ?_
      refine ⟨c, HC.out, ?_, hS.toExt⟩
      rw [← HV.out]; rfl
end Go.Proofs.Ytkflmichekpfbaa
