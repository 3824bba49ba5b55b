/- How the laws of chapter 36 go on: data from two calls. No condition. -/
import Derived.Test.YtombhhhaidmpeaaAwake36
import Derived.Test.YtombhhhaidmpeaaRneed
import Derived.Test.YtombhhhaidmpeaaGe
namespace Go.Proofs.Ytombhhhaidmpeaa
open Go.RowKit
set_option linter.unusedVariables false
set_option linter.unusedSimpArgs false
set_option linter.unusedSectionVars false

set_option maxHeartbeats 800000 in
theorem mod36_any (x : Int) (n : Nat) (z : Int) (w0 : World) (hz : z = n) (hn : 1 ≤ n) (hn' : n ≤ 1000) :
    Calls Try.prog 13 #[.int .i64 x, .int .i64 z] w0 fun e w' => (∃ r : Nat, e = .returned (.int .i64 r) ∧ r < n) ∧ Ext w0 w' := by
  subst hz
  have hS := St.start w0 NoM
  have h1 : Int.tmod x n < n := Int.tmod_lt_of_pos x (by omega)
  have h2 : -(n : Int) < Int.tmod x n := by
    have := Int.tmod_lt_of_pos (-x) (show (0 : Int) < n by omega)
    rw [Int.neg_tmod] at this; omega
  generalize hy : Int.tmod x n = y at *
  by_cases h0 : y < 0
  · go_enter Try.func13, Try.ntmps13
    go_wp2_with (fail)
    go_ret
    exact ⟨⟨(y + n).toNat, ret_int (by omega), by omega⟩, hS.toExt⟩
  · go_enter Try.func13, Try.ntmps13
    go_wp2_with (fail)
    go_ret
    exact ⟨⟨y.toNat, ret_int (by omega), by omega⟩, hS.toExt⟩
section
variable {w0 w u u' : World} {M T N : Nat → Prop} {cs : List (Chunk w0 M)} {f1 f2 : Chunk w0 M → List (Chunk w0 M)}
theorem St.growK {w' : World} (T : Nat → Prop) (u : World) (h : St w0 M cs w) [hk : PickK (froz T u) cs f1] (hx : Ext w w') :
    ∃ N : Nat → Prop, St w0 M (froz N w' :: cs) w' ∧ Into (Orn T w) (fun k => N k ∨ T k) w' w' ∧ Into T T u w' := by
  refine ⟨_, h.frozNew hx, fun k hk hl => ⟨?_, rfl⟩, fun k hk' hl => ⟨hk', ?_⟩⟩
  · rcases hk with hk | hk
    · exact .inr hk
    · exact .inl ⟨hk, hl⟩
  · have h1 := (hk.eq ▸ h : St w0 M (f1 (froz T u)) w).at_ hk.gap k hk'
    exact (hx.block k h1.1).trans h1.2
/-- what was said of data made by a call, beside older data, holds now -/
theorem St.intoTwo (N : Nat → Prop) (u' : World) (T : Nat → Prop) (u : World) (h : St w0 M cs w) [hk : PickK (froz N u') cs f1] [hp : PickK (froz T u) cs f2] (hi : Into T T u u') : Into (fun k => N k ∨ T k) (fun k => N k ∨ T k) u' w := by
  have hn := (hk.eq ▸ h : St w0 M (f1 (froz N u')) w).at_ hk.gap
  have ht := (hp.eq ▸ h : St w0 M (f2 (froz T u)) w).at_ hp.gap
  intro k hkk hl
  refine ⟨hkk, ?_⟩
  rcases hkk with hkk | hkk
  · exact (hn k hkk).2
  · have h1 := ht k hkk
    have hlt : k < u.heap.size := by
      have : u.heap[k]? = some w.heap[k] := h1.2.symm.trans (Array.getElem?_eq_getElem h1.1)
      exact lt_of_block this
    exact h1.2.trans ((hi k hkk hlt).2).symm
end
theorem needL_rl {p : Pat} (hg : Good p) : ∀ l ∈ needL p, l.length ≤ 65 := fun l hl => by
  obtain ⟨q, hq, rfl⟩ := List.mem_map.1 hl
  have h1 := hg.rowLen (List.mem_range.1 hq)
  have h2 := List.length_filter_le (needB p q) (rowOf p.ck q)
  unfold needRow
  omega
end Go.Proofs.Ytombhhhaidmpeaa
