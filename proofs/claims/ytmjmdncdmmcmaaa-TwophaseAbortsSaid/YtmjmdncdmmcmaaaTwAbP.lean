/- rollbacknetref24.Least; what a run with an unwilling process ends with. Conditions: the pattern is good and lies in memory. -/
import Derived.Test.YtmjmdncdmmcmaaaClos
import Derived.Test.YtmjmdncdmmcmaaaTwZ
namespace Go.Proofs.Ytmjmdncdmmcmaaa
open Go.RowKit Tph
set_option linter.unusedVariables false
set_option linter.unusedSimpArgs false
set_option linter.unusedSectionVars false

set_option maxRecDepth 100000 in
set_option maxHeartbeats 1600000 in
theorem rleast_any {S : Nat → Prop} (A1 : Option Addr) (c1 : Nat) (A2 : Option Addr) (c2 : Nat) (A3 : Option Addr) (c3 : Nat) (p : Pat) (r : Nat) (w0 : World) (hp : PatAt S w0 ⟨A1, c1, A2, c2, A3, c3⟩ p) (hg : Good p) (hr : r < p.len.length) :
    Calls Try.prog 40 #[.agg #[.slice A1 p.len.length c1, .slice A2 p.ck.length c2, .slice A3 p.arcs.length c3], .int .i64 (r : Int)] w0 (fun e w' => ∃ m, IsRch (srcL p) r m ∧ RetRow w0 3 1 m.length (ints (nats m)) e w') := by
  have hS := St.start w0 NoM
  go_enter Try.func40, Try.ntmps40
  go_wp2_with (first | (go_at_call 78; refine (closure_any A1 c1 A2 c2 A3 c3 p r _ (hp.ext hS.toExt) hg hr).mono ?_; rintro e w ⟨m, hm, L, cL, rfl, ho, hx1⟩; replace hS := hS.addRow ho hx1; clear ho hx1; have HM := Lib.hid hm; clear hm) | (refine oL ?_; (first | refine sL1 hS rfl rfl rfl ?_ | refine sL2 hS rfl rfl rfl ?_ | refine sL3 hS rfl rfl ?_ | refine sL4 hS rfl rfl ?_ | refine sL5 hS rfl rfl ?_ | refine sL6 hS rfl rfl ?_ | refine sL7 hS rfl rfl ?_)) | ((first | (refine oB ?_; first | refine sB1 hS rfl rfl ?_ | refine sB2 hS rfl rfl ?_)); clear hS; first | ((fail_if_success guard_hyp g1); intro g1 w hS) | ((fail_if_success guard_hyp g2); intro g2 w hS) | fail) | fail)
  go_ret
  refine ⟨m, HM.out, ?_⟩
  have h9 := hS.ret (L := L) (c := cL) (k := m.length) rfl
  (try simp only [ints, nats, List.map_map] at h9 ⊢)
  exact h9
theorem opOf_unw1 {n u : Nat} (h : u < n) : opOf (unwOf n [(u : Int)]) u = true := by
  unfold opOf unwOf
  rw [List.getD_eq_getElem?_getD, List.getElem?_map, List.getElem?_range h]
  simp
/-- an unwilling process among those that are needed is asked -/
theorem ab_dec {p : Pat} {r u : Nat} {t : TS} (h : RunE p p.len.length r [(u : Int)] t) (hu : u < p.len.length) (hur : Rch (srcL p) r u) : (∀ q, nth t.dec q ≠ 1) ∧ nth t.dec r = 2 := by
  rcases h.res with ⟨h1, h2⟩ | ⟨h1, z, h2, h3⟩
  · exfalso
    have hw : WR p (unwOf p.len.length [(u : Int)]) r u := hur.closed (P := fun z => WR p (unwOf p.len.length [(u : Int)]) r z) .here (fun x hx y hy => .step hx (h2 x hx) hy)
    have := h2 u hw
    rw [opOf_unw1 hu] at this
    cases this
  · refine ⟨fun q => ?_, h1 r .here⟩
    by_cases hw : WR p (unwOf p.len.length [(u : Int)]) r q
    · rw [h1 q hw]; decide
    · rw [h.un q hw]; decide
theorem resP_same {p : Pat} {dec : List Int} (h : ∀ q, nth dec q ≠ 1) : ∀ k, resP p dec k = p
  | 0 => rfl
  | k + 1 => by unfold resP; rw [if_neg (h k)]; exact resP_same h k
end Go.Proofs.Ytmjmdncdmmcmaaa
