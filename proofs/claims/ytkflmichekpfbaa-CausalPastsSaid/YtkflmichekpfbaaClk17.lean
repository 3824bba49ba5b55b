/- rollbacknetref17: Clock, Past. Conditions: the pattern is good and lies in memory, the points are points of it. -/
import Derived.Test.YtkflmichekpfbaaClocks
import Derived.Test.YtkflmichekpfbaaGf
namespace Go.Proofs.Ytkflmichekpfbaa
open Go.RowKit
set_option linter.unusedVariables false
set_option linter.unusedSimpArgs false
set_option linter.unusedSectionVars false

/-- a cell of data that a call has made -/
theorem RV.fcNew {B : Nat} {u : World} {A : Option Addr} {vs : List Value} (h : RV (fun b => B ≤ b) u A vs) {k : Nat} {v : Value} (hk : vs[k]? = some v) : ∃ b o, A = some ⟨b, o, none⟩ ∧ FC (fun b => B ≤ b ∧ b < u.heap.size) u b (o + k) v := by
  obtain ⟨b, o, e, hb, hc⟩ := h k v hk
  exact ⟨b, o, e, ⟨hb, lt_of_cell (p := ⟨b, o + k, none⟩) hc⟩, hc⟩
/-- what is known of the clocks that Clocks has made -/
structure ClksD (p : Pat) (B : Nat) (u : World) (L : Option Addr) (rs : List RowD) : Prop where
  out : RV (fun b => B ≤ b) u L (rs.map Prod.fst)
  fam : FamC p (fun b => B ≤ b) u p.len rs
  rows : ∀ q (h : q < rs.length), ∃ A c, rs[q].1 = .slice A rs[q].2.length c ∧ RV (fun b => B ≤ b) u A rs[q].2
theorem ClksD.at_ {p : Pat} {B : Nat} {u : World} {L : Option Addr} {rs : List RowD} (h : ClksD p B u L rs) (hg : Good p) {q k : Nat} (hq : q < p.len.length) (hk : (k : Int) ≤ nth p.len q) :
    ∃ b o b' o' m c L' cap cl, L = some ⟨b, o, none⟩ ∧ FC (fun b => B ≤ b ∧ b < u.heap.size) u b (o + q) (.slice (some ⟨b', o', none⟩) m c) ∧ k < m ∧ m ≤ 100 ∧ FC (fun b => B ≤ b ∧ b < u.heap.size) u b' (o' + k) (.slice L' p.len.length cap) ∧ IsClk p q (k : Int) cl ∧ RI (fun b => B ≤ b) u L' cl := by
  have hqr : q < rs.length := by rw [h.fam.n]; exact hq
  obtain ⟨A, c, hA, hrv⟩ := h.rows q hqr
  have hrow := h.fam.r q hqr
  have hlen : rs[q].2.length = (nth p.len q + 1).toNat := hrow.n
  have hkl : k < rs[q].2.length := by omega
  obtain ⟨L', cap, cl, hv, hclk, hri⟩ := hrow.k k hkl
  obtain ⟨b, o, e1, hf1⟩ := h.out.fcNew (k := q) (v := .slice A rs[q].2.length c) (by rw [List.getElem?_map, List.getElem?_eq_getElem hqr, Option.map_some, hA])
  obtain ⟨b', o', e2, hf2⟩ := hrv.fcNew (k := k) (v := .slice L' p.len.length cap) (by rw [List.getElem?_eq_getElem hkl, hv])
  subst e2
  have := hg.hi q hq
  exact ⟨b, o, b', o', _, c, L', cap, cl, e1, hf1, hkl, by omega, hf2, hclk, hri⟩
theorem clocks_n {S : Nat → Prop} {A1 A2 A3 : Option Addr} {c1 c2 c3 n1 n2 n3 : Nat} {p : Pat} {w : World} (e1 : p.len.length = n1) (e2 : p.ck.length = n2) (e3 : p.arcs.length = n3) (hp : PatAt S w ⟨A1, c1, A2, c2, A3, c3⟩ p) (hg : Good p) :
    Calls Try.prog 65 #[.agg #[.slice A1 n1 c1, .slice A2 n2 c2, .slice A3 n3 c3]] w fun e w' => ∃ L c rs, e = .returned (.slice L n1 c) ∧ Ext w w' ∧ ClksD p w.heap.size w' L rs := by
  subst e1 e2 e3
  refine (clocks_any ⟨A1, c1, A2, c2, A3, c3⟩ p w hp hg).mono ?_
  rintro e w' ⟨L, c, rs, h1, h2, h3, h4, h5⟩
  exact ⟨L, c, rs, h1, h2, ⟨h3, h4, h5⟩⟩
set_option maxRecDepth 100000 in
set_option maxHeartbeats 3200000 in
theorem rclock_any {S : Nat → Prop} (v : PV) (p : Pat) (q : Nat) (k : Int) (w0 : World) (hp : PatAt S w0 v p) (hg : Good p) (hpt : PtOk p (q, k)) :
    Calls Try.prog 21 #[v.val p, .int .i64 (q : Int), .int .i64 k] w0 fun e w' => ∃ (L : Option Addr) (cap : Nat) (c : List Int), e = .returned (.slice L p.len.length cap) ∧ IsClk p q k c ∧ RI (fun b => w0.heap.size ≤ b) w' L c ∧ Ext w0 w' := by
  have hS := St.start w0 NoM
  have hn5 := hg.n5
  obtain ⟨hq, hk0, hkl⟩ := hpt
  simp only at hq hk0 hkl
  obtain ⟨kn, rfl⟩ : ∃ kn : Nat, k = kn := ⟨k.toNat, by omega⟩
  have HP := Lib.hid (And.intro hp hg)
  clear hp hg
  obtain ⟨A1, c1, A2, c2, A3, c3⟩ := v
  simp only [PV.val] at *
  have hq' : (q : Int) < p.len.length := by omega
  go_enter Try.func21, Try.ntmps21
  go_wp2_with (first | (refine oL ?_; (first | refine sL1 hS rfl rfl rfl ?_ | refine sL2 hS rfl rfl rfl ?_ | refine sL3 hS rfl rfl ?_ | refine sL4 hS rfl rfl ?_ | refine sL5 hS rfl rfl ?_ | refine sL6 hS rfl rfl ?_ | refine sL7 hS rfl rfl ?_)) | ((first | (refine oB ?_; first | refine sB1 hS rfl rfl ?_ | refine sB2 hS rfl rfl ?_)); clear hS; first | ((fail_if_success guard_hyp g1); intro g1 w hS) | ((fail_if_success guard_hyp g2); intro g2 w hS) | fail) | fail)
  refine (clocks_n rfl rfl rfl (HP.out.1.ext hS.toExt) HP.out.2).mono ?_
  rintro e u ⟨L, c, rs, rfl, hx1, hD⟩
  have hle := hS.le
  replace hS := hS.frozNew hx1
  obtain ⟨b, o, b', o', m, cm, L', cap, cl, rfl, hf1, hkm, hm, hf2, hclk, hri⟩ := hD.at_ HP.out.2 hq hkl
  have hkm' : (kn : Int) < m := by omega
  have HC := Lib.hid (And.intro hclk hri)
  clear hD hclk hri
  go_wp2_with (first | (refine oL ?_; (first | refine sL1 hS rfl rfl rfl ?_ | refine sL2 hS rfl rfl rfl ?_ | refine sL3 hS rfl rfl ?_ | refine sL4 hS rfl rfl ?_ | refine sL5 hS rfl rfl ?_ | refine sL6 hS rfl rfl ?_ | refine sL7 hS rfl rfl ?_)) | ((first | (refine oB ?_; first | refine sB1 hS rfl rfl ?_ | refine sB2 hS rfl rfl ?_)); clear hS; first | ((fail_if_success guard_hyp g1); intro g1 w hS) | ((fail_if_success guard_hyp g2); intro g2 w hS) | fail) | fail)
  go_ret
  exact ⟨L', cap, cl, rfl, HC.out.1, HC.out.2.sub (fun b hb => Nat.le_trans hle hb), hS.toExt⟩
theorem rclock_n {S : Nat → Prop} {A1 A2 A3 : Option Addr} {c1 c2 c3 n1 n2 n3 : Nat} {p : Pat} {q : Nat} {z k : Int} {w : World} (e1 : p.len.length = n1) (e2 : p.ck.length = n2) (e3 : p.arcs.length = n3) (hz : z = q) (hp : PatAt S w ⟨A1, c1, A2, c2, A3, c3⟩ p) (hg : Good p) (hpt : PtOk p (q, k)) :
    Calls Try.prog 21 #[.agg #[.slice A1 n1 c1, .slice A2 n2 c2, .slice A3 n3 c3], .int .i64 z, .int .i64 k] w fun e w' => ∃ (L : Option Addr) (cap : Nat) (c : List Int), e = .returned (.slice L n1 cap) ∧ IsClk p q k c ∧ c.length = n1 ∧ RI (fun b => w.heap.size ≤ b ∧ b < w'.heap.size) w' L c ∧ Ext w w' := by
  subst e1 e2 e3 hz
  refine (rclock_any ⟨A1, c1, A2, c2, A3, c3⟩ p q k w hp hg hpt).mono ?_
  rintro e w' ⟨L, cap, c, h1, h2, h3, h4⟩
  exact ⟨L, cap, c, h1, h2, h2.len, h3.into (fun b hb hl => ⟨⟨hb, hl⟩, rfl⟩), h4⟩
end Go.Proofs.Ytkflmichekpfbaa
