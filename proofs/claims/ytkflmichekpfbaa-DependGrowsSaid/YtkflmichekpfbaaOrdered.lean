/- What pattern.ordered returns: the search from the end of each process. Conditions: a grid of 325 numbers. -/
import Derived.Test.YtkflmichekpfbaaVisit
import Derived.Laws.EntriesVeiled
namespace Go.Proofs.Ytkflmichekpfbaa
open Go.RowKit
set_option linter.unusedVariables false

/-- the search from the end of each process, from process q on -/
def ordF (rc : List Int) (az : List Arc) (f : Nat) : List Int → Nat → List Int → Option Bool
  | [], _, _ => some true
  | n :: r, q, m => match visF rc az f q n.toNat m with
    | none => none
    | some (false, _) => some false
    | some (true, m1) => ordF rc az f r (q + 1) m1
def zeros : List Int := List.replicate 325 0
theorem zeros_length : zeros.length = 325 := List.length_replicate
theorem zeros_cells : Try.zeroCells95 = (ints zeros).toArray := by kernel_rfl

set_option maxRecDepth 100000 in
set_option maxHeartbeats 1600000 in
theorem ordered_any {S : Nat → Prop} (v : PV) (p : Pat) (ga f : Nat) (rc : List Int) (b : Bool) (w : World) (hp : PatAt S w v p) (hn : p.len.length ≤ 5) (hlen : ∀ q, q < p.len.length → 0 ≤ nth p.len q ∧ nth p.len q ≤ 64)
    (hca : RI S w (some ⟨ga, 0, none⟩) rc) (hrl : rc.length = 325) (hfew : p.arcs.length ≤ 256) (hrb : ∀ j, j < 325 → 0 ≤ nth rc j ∧ nth rc j ≤ p.arcs.length) (hab : ∀ a ∈ p.arcs, a.fr < 5 ∧ 0 ≤ a.ix ∧ a.ix ≤ 64)
    (hf : ordF rc p.arcs f p.len 0 zeros = some b) :
    Calls Try.prog 89 #[v.val p, .pointer (some ⟨ga, 0, none⟩)] w fun e w' => e = .returned (.bool b) ∧ Ext w w' := by
  obtain ⟨A1, c1, A2, c2, A3, c3⟩ := v
  obtain ⟨h1, h2, h3, l1, m1, l2, m2, l3, m3⟩ := hp
  simp only at h1 h2 h3 l1 m1 l2 m2 l3 m3
  simp only [PV.val]
  have hx0 : Ext w ((((w.alloc (.cells #[.slice A1 p.len.length c1, .slice A2 p.ck.length c2, .slice A3 p.arcs.length c3] 28)).alloc (.cells #[.pointer (some ⟨ga, 0, none⟩)] 98)).alloc (.cells Try.zeroCells95 95)).alloc
      (.cells #[.func (.func 91) #[] #[.pointer (some ⟨w.heap.size + 1 + 1, 0, none⟩), .pointer (some ⟨w.heap.size + 1 + 1 + 1, 0, none⟩), .pointer (some ⟨w.heap.size + 1, 0, none⟩), .pointer (some ⟨w.heap.size, 0, none⟩)]] 99)) :=
    ((((Ext.refl' w).alloc' _).alloc' _).alloc' _).alloc' _
  have hctx0 : VCtx ((((w.alloc (.cells #[.slice A1 p.len.length c1, .slice A2 p.ck.length c2, .slice A3 p.arcs.length c3] 28)).alloc (.cells #[.pointer (some ⟨ga, 0, none⟩)] 98)).alloc (.cells Try.zeroCells95 95)).alloc
      (.cells #[.func (.func 91) #[] #[.pointer (some ⟨w.heap.size + 1 + 1, 0, none⟩), .pointer (some ⟨w.heap.size + 1 + 1 + 1, 0, none⟩), .pointer (some ⟨w.heap.size + 1, 0, none⟩), .pointer (some ⟨w.heap.size, 0, none⟩)]] 99))
      (w.heap.size + 1 + 1) (w.heap.size + 1 + 1 + 1) (w.heap.size + 1) ga w.heap.size A3 c3 rc p.arcs := by
    refine ⟨by omega, by omega, by omega, ?_, ?_, ?_, RI.into hca (fun k hs hk => ⟨by omega, hx0.block k hk⟩), h3.into (fun k hs hk => ⟨by omega, hx0.block k hk⟩), l3, m3, hrl, hfew, hrb, hab⟩
    · exact cell_of_heap (heap4 w _ _ _ _).2.2.2 rfl
    · exact cell_of_heap (heap4 w _ _ _ _).2.1 rfl
    · exact cell_of_heap (heap4 w _ _ _ _).1 rfl
  have hm0 : Marks ((((w.alloc (.cells #[.slice A1 p.len.length c1, .slice A2 p.ck.length c2, .slice A3 p.arcs.length c3] 28)).alloc (.cells #[.pointer (some ⟨ga, 0, none⟩)] 98)).alloc (.cells Try.zeroCells95 95)).alloc
      (.cells #[.func (.func 91) #[] #[.pointer (some ⟨w.heap.size + 1 + 1, 0, none⟩), .pointer (some ⟨w.heap.size + 1 + 1 + 1, 0, none⟩), .pointer (some ⟨w.heap.size + 1, 0, none⟩), .pointer (some ⟨w.heap.size, 0, none⟩)]] 99))
      (w.heap.size + 1 + 1) zeros := by
    refine ⟨?_, zeros_length⟩
    rw [zeros_cells]
    exact (heap4 w _ _ _ _).2.2.1
  have HC := Lib.hid hctx0
  have HM := Lib.hid hm0
  have HX := Lib.hid hx0
  have HL := Lib.hid hlen
  have HF := Lib.hid hf
  clear hctx0 hm0 hx0 hlen hf hrb hab hca
  go_enter Try.func89, Try.ntmps89
  go_wp2_with fail
  go_loopw [13] (fun i wr => ∃ k : Nat, k ≤ p.len.length ∧ i = .int .i64 k ∧ (∃ m, Marks wr (w.heap.size + 1 + 1) m ∧ Hid (ordF rc p.arcs f (p.len.drop k) k m = some b)) ∧ VCtx wr (w.heap.size + 1 + 1) (w.heap.size + 1 + 1 + 1) (w.heap.size + 1) ga w.heap.size A3 c3 rc p.arcs ∧ Ext w wr) (fun i _ => p.len.length - (intOf i).toNat)
  case atStart => exact ⟨0, Nat.zero_le _, rfl, ⟨zeros, HM.out, HF⟩, HC.out, HX.out⟩
  case round =>
    clear HC HM HX HF
    obtain ⟨k, hk, rfl, ⟨m, hm, HF⟩, hctx, hext⟩ := hrel
    by_cases hlt : k < p.len.length
    · obtain ⟨b1, o1, rfl, hcl⟩ := (h1.ext hext).atN hlt
      have hcv := hctx.cv
      obtain ⟨hl0, hl1⟩ := HL.out k hlt
      obtain ⟨n, hn'⟩ := Int.eq_ofNat_of_zero_le hl0
      have hf := HF.out
      rw [List.drop_eq_getElem_cons hlt, ← nth_eq hlt, hn', ordF, Int.toNat_natCast] at hf
      rw [hn'] at hcl hl1
      have hn64 : n ≤ 64 := by omega
      clear HF hl0 hl1 hn'
      cases hr : visF rc p.arcs f k n m with
      | none => rw [hr] at hf; cases hf
      | some bm =>
        obtain ⟨b1', m1⟩ := bm
        rw [hr] at hf
        have hv := vis_any (w.heap.size + 1 + 1) (w.heap.size + 1 + 1 + 1) (w.heap.size + 1) ga w.heap.size A3 c3 rc p.arcs f k n m m1 b1' wr (by omega) hn64 hctx hm hr
        have HV := Lib.hid hv
        have HF := Lib.hid hf
        clear hv hr hf
        go_wp2_with fail
        refine HV.out.mono ?_
        rintro e w1 ⟨rfl, hm1, hk1⟩
        have hctx1 := hctx.keep hk1
        have hext1 : Ext w w1 := hext.trans (hk1.below hext.size (fun k hk => by omega))
        have hf := HF.out
        clear hctx hm HV HF hk1
        cases b1' with
        | false =>
          injection hf with hf
          subst hf
          go_wp2_with fail
          go_ret
          exact ⟨rfl, hext1⟩
        | true =>
          have HF := Lib.hid hf
          clear hf
          go_wp2_with fail
          go_roundw
          case rel => exact ⟨k + 1, by omega, by go_num, ⟨m1, hm1, HF⟩, hctx1, hext1⟩
          case measure => simp [intOf]; omega
    · have hf := HF.out
      rw [List.drop_eq_nil_of_le (by omega), ordF] at hf
      injection hf with hf
      subst hf
      go_wp2_with fail
      go_ret
      exact ⟨rfl, hext⟩
end Go.Proofs.Ytkflmichekpfbaa
