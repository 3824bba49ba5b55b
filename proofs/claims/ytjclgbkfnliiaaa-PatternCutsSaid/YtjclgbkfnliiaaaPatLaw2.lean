/- Calls over patterns and cuts that lie in data. No condition. -/
import Derived.Test.YtjclgbkfnliiaaaPatLaw
import Derived.Test.YtjclgbkfnliiaaaRrestrict
import Derived.Test.YtjclgbkfnliiaaaTransit
namespace Go.Proofs.Ytjclgbkfnliiaaa
open Go.RowKit
set_option linter.unusedVariables false
set_option linter.unusedSimpArgs false
theorem reduce_fits {p : Pat} (h : Good p) : Fits (reduce p) := by
  have hf := h.fits
  refine ⟨hf.l, hf.c, hf.r, ?_⟩
  have := List.length_filter_le (fun a : Arc => a.at_ != 0) p.arcs
  have := hf.a
  show (p.arcs.filter _).length ≤ 1000
  omega
section
variable {S T : Nat → Prop} {A1 A2 A3 X : Option Addr} {c1 c2 c3 n1 n2 n3 c n : Nat} {p : Pat} {xs : List Int} {w : World}
theorem restrict_n (e1 : p.len.length = n1) (e2 : p.ck.length = n2) (e3 : p.arcs.length = n3) (hn : xs.length = n) (hp : PatAt S w ⟨A1, c1, A2, c2, A3, c3⟩ p) (hg : Good p) (hx : RI T w X xs) (hv : validB p.len xs = true) :
    Calls Try.prog 39 #[.agg #[.slice A1 n1 c1, .slice A2 n2 c2, .slice A3 n3 c3], .slice X n c] w (RetP S w (restr p xs)) := by
  subst e1 e2 e3 hn; exact restrict_any ⟨A1, c1, A2, c2, A3, c3⟩ X c p xs w hp hg hx hv
theorem rrestrict_n (e1 : p.len.length = n1) (e2 : p.ck.length = n2) (e3 : p.arcs.length = n3) (hn : xs.length = n) (hp : PatAt S w ⟨A1, c1, A2, c2, A3, c3⟩ p) (hg : Good p) (hx : RI T w X xs) (hv : validB p.len xs = true) :
    Calls Try.prog 45 #[.agg #[.slice A1 n1 c1, .slice A2 n2 c2, .slice A3 n3 c3], .slice X n c] w (RetP S w (restr p xs)) := by
  subst e1 e2 e3 hn; exact rrestrict_any ⟨A1, c1, A2, c2, A3, c3⟩ X c p xs w hp hg hx hv
theorem transit_n (e1 : p.len.length = n1) (e2 : p.ck.length = n2) (e3 : p.arcs.length = n3) (hn : xs.length = n) (hp : PatAt S w ⟨A1, c1, A2, c2, A3, c3⟩ p) (hg : Good p) (hx : RI T w X xs) (hv : validB p.len xs = true) :
    Calls Try.prog 40 #[.agg #[.slice A1 n1 c1, .slice A2 n2 c2, .slice A3 n3 c3], .slice X n c] w (RetRow w 3 1 (idxs (transit xs) p.arcs p.arcs.length).length (ints (idxs (transit xs) p.arcs p.arcs.length))) := by
  subst e1 e2 e3 hn; exact transit_any ⟨A1, c1, A2, c2, A3, c3⟩ X c p xs w hp hg hx hv
theorem rtransit_n (e1 : p.len.length = n1) (e2 : p.ck.length = n2) (e3 : p.arcs.length = n3) (hn : xs.length = n) (hp : PatAt S w ⟨A1, c1, A2, c2, A3, c3⟩ p) (hg : Good p) (hx : RI T w X xs) (hv : validB p.len xs = true) :
    Calls Try.prog 46 #[.agg #[.slice A1 n1 c1, .slice A2 n2 c2, .slice A3 n3 c3], .slice X n c] w (RetRow w 3 1 (idxs (transit xs) p.arcs p.arcs.length).length (ints (idxs (transit xs) p.arcs p.arcs.length))) := by
  subst e1 e2 e3 hn; exact rtransit_any ⟨A1, c1, A2, c2, A3, c3⟩ X c p xs w hp hg hx hv
theorem reduce_n (e1 : p.len.length = n1) (e2 : p.ck.length = n2) (e3 : p.arcs.length = n3) (hp : PatAt S w ⟨A1, c1, A2, c2, A3, c3⟩ p) (hf : n3 ≤ 1000) :
    Calls Try.prog 47 #[.agg #[.slice A1 n1 c1, .slice A2 n2 c2, .slice A3 n3 c3]] w (RetP S w (reduce p)) := by
  subst e1 e2 e3; exact reduce_any ⟨A1, c1, A2, c2, A3, c3⟩ p w hp hf
theorem rreduce_n (e1 : p.len.length = n1) (e2 : p.ck.length = n2) (e3 : p.arcs.length = n3) (hp : PatAt S w ⟨A1, c1, A2, c2, A3, c3⟩ p) (hf : n3 ≤ 1000) :
    Calls Try.prog 48 #[.agg #[.slice A1 n1 c1, .slice A2 n2 c2, .slice A3 n3 c3]] w (RetP S w (reduce p)) := by
  subst e1 e2 e3; exact rreduce_any ⟨A1, c1, A2, c2, A3, c3⟩ p w hp hf
theorem interval_n {ck : List (List Int)} {q : Nat} {z x : Int} (hn : ck.length = n2) (hz : z = q) (h2 : RR S w A2 ck) (hq : q < n2) (hck : n2 ≤ 5) (hl : (rowOf ck q).length ≤ 100) :
    Calls Try.prog 18 #[.agg #[.slice A1 n1 c1, .slice A2 n2 c2, .slice A3 n3 c3], .int .i64 z, .int .i64 x] w fun e w' => e = .returned (.int .i64 (below (rowOf ck q) x : Int)) ∧ Ext w w' := by
  subst hn hz
  rw [rowOf_eq hq] at *
  exact interval_any A1 A2 A3 c1 c2 c3 n1 n3 ck q x w h2 hq hck hl
theorem rinterval_n {ck : List (List Int)} {q : Nat} {z x : Int} (hn : ck.length = n2) (hz : z = q) (h2 : RR S w A2 ck) (hq : q < n2) (hck : n2 ≤ 5) (hl : (rowOf ck q).length ≤ 100) :
    Calls Try.prog 44 #[.agg #[.slice A1 n1 c1, .slice A2 n2 c2, .slice A3 n3 c3], .int .i64 z, .int .i64 x] w fun e w' => e = .returned (.int .i64 (below (rowOf ck q) x : Int)) ∧ Ext w w' := by
  subst hn hz
  rw [rowOf_eq hq] at *
  exact rinterval_any A1 A2 A3 c1 c2 c3 n1 n3 ck q x w h2 hq hck hl
end
end Go.Proofs.Ytjclgbkfnliiaaa
