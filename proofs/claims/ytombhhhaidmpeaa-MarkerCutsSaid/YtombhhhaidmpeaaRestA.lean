/- What a cut leaves of a pattern: the pure side; isCut, Transit, Reduce. Conditions: the pattern is good and lies in memory. -/
import Derived.Test.YtombhhhaidmpeaaGe
namespace Go.Proofs.Ytombhhhaidmpeaa
open Go.RowKit
set_option linter.unusedVariables false
set_option linter.unusedSimpArgs false

/-- what a cut leaves of an arc -/
def cutArc (x : List Int) (a : Arc) : Option Arc := if nth x a.fr < a.ix then none else some (if nth x a.to < a.at_ then { a with at_ := 0 } else a)
def restr (p : Pat) (x : List Int) : Pat := ⟨x, (List.range p.ck.length).map (fun q => (rowOf p.ck q).filter (fun k => decide (k ≤ nth x q))), p.arcs.filterMap (cutArc x)⟩
def transit (x : List Int) (a : Arc) : Bool := decide (a.ix ≤ nth x a.fr) && (a.at_ == 0 || decide (nth x a.to < a.at_))
def reduce (p : Pat) : Pat := { p with arcs := p.arcs.filter (fun a => a.at_ != 0) }
theorem cutArc_some {x : List Int} {a b : Arc} (h : cutArc x a = some b) : a.ix ≤ nth x a.fr ∧ b.fr = a.fr ∧ b.ix = a.ix ∧ b.to = a.to ∧ (b.at_ = 0 ∨ (b.at_ = a.at_ ∧ a.at_ ≤ nth x a.to)) := by
  unfold cutArc at h
  split at h
  · cases h
  · injection h with h
    subst h
    split
    · exact ⟨by omega, rfl, rfl, rfl, .inl rfl⟩
    · exact ⟨by omega, rfl, rfl, rfl, .inr ⟨rfl, by omega⟩⟩
theorem restr_row {p : Pat} {x : List Int} {q : Nat} (hq : q < p.ck.length) : rowOf (restr p x).ck q = (rowOf p.ck q).filter (fun k => decide (k ≤ nth x q)) := by
  rw [rowOf_eq (by simpa [restr] using hq)]
  simp [restr]
theorem uniq_iff {l : List Arc} : (∀ i j (hi : i < l.length) (hj : j < l.length), i < j → l[i].to = l[j].to → l[i].at_ = l[j].at_ → l[i].at_ = 0) ↔ l.Pairwise (fun a b => a.to = b.to → a.at_ = b.at_ → a.at_ = 0) := by
  rw [List.pairwise_iff_getElem]
theorem restr_good {p : Pat} (h : Good p) {x : List Int} (hv : validB p.len x = true) : Good (restr p x) := by
  obtain ⟨hl, hb⟩ := valid_iff.1 hv
  have hl' : (restr p x).len.length = p.len.length := hl
  obtain ⟨rk, N, ⟨h1, h2⟩, h3⟩ := h.rank
  refine ⟨by rw [hl']; exact h.n2, by rw [hl']; exact h.n5, by rw [hl']; simpa [restr] using h.ckl, fun q hq => (hb q (by omega)).1, fun q hq => ?_, fun q hq => ?_, fun b hb' => ?_, ?_, ?_, ⟨rk, N, ⟨fun q hq k h0 hk => ?_, fun b hb' h0 => ?_⟩, fun q hq k h0 hk => ?_⟩⟩
  · have := (hb q (by omega)).2
    have := h.hi q (by omega)
    show nth x q ≤ 64
    omega
  · have hq' : q < p.len.length := by omega
    rw [restr_row (by rw [h.ckl]; exact hq')]
    have hr := h.row q hq'
    obtain ⟨r, hr0⟩ := hr.head
    refine ⟨⟨r.filter (fun k => decide (k ≤ nth x q)), ?_⟩, hr.asc.filter _, fun y hy => ?_⟩
    · rw [hr0, List.filter_cons_of_pos (by simpa using (hb q hq').1)]
    · have := (List.mem_filter.1 hy).2
      show y ≤ nth x q
      simpa using this
  · obtain ⟨a, ha, hab⟩ := List.mem_filterMap.1 hb'
    have ho := h.arc a ha
    obtain ⟨c1, c2, c3, c4, c5⟩ := cutArc_some hab
    have hx := (hb a.to ho.to).1
    refine ⟨by rw [c2, hl']; exact ho.fr, by rw [c4, hl']; exact ho.to, by rw [c2, c4]; exact ho.ne, by rw [c3]; exact ho.ix0, by rw [c2, c3]; exact c1, ?_, ?_⟩
    · have := ho.at0; omega
    · rw [c4]; show b.at_ ≤ nth x a.to; omega
  · rw [uniq_iff]
    show (p.arcs.filterMap (cutArc x)).Pairwise _
    rw [List.pairwise_filterMap]
    refine (uniq_iff.1 h.uniq).imp ?_
    intro a a' hu b hb1 b' hb2 e1 e2
    obtain ⟨_, _, _, c4, c5⟩ := cutArc_some hb1
    obtain ⟨_, _, _, d4, d5⟩ := cutArc_some hb2
    rcases c5 with c5 | ⟨c5, _⟩
    · exact c5
    · rcases d5 with d5 | ⟨d5, _⟩
      · omega
      · rw [c5]; exact hu (by rw [← c4, ← d4]; exact e1) (by rw [← c5, ← d5]; exact e2)
  · have := List.length_filterMap_le (cutArc x) p.arcs
    have := h.few
    show (p.arcs.filterMap (cutArc x)).length ≤ 256
    omega
  · have h4 : k < nth x q := hk
    have := (hb q (by omega)).2
    exact h1 q (by omega) k h0 (by omega)
  · obtain ⟨a, ha, hab⟩ := List.mem_filterMap.1 hb'
    obtain ⟨_, c2, c3, c4, c5⟩ := cutArc_some hab
    rcases c5 with c5 | ⟨c5, _⟩
    · exact absurd c5 h0
    · rw [c2, c3, c4, c5]; exact h2 a ha (by rw [← c5]; exact h0)
  · have h4 : k ≤ nth x q := hk
    have := (hb q (by omega)).2
    exact h3 q (by omega) k h0 (by omega)
set_option maxHeartbeats 1600000 in
theorem isCut_any {S T : Nat → Prop} (v : PV) (X : Option Addr) (c : Nat) (p : Pat) (xs : List Int) (w0 : World) (hp : PatAt S w0 v p) (hg : Good p) (hx : RI T w0 X xs) (hv : validB p.len xs = true) :
    Calls Try.prog 68 #[v.val p, .slice X xs.length c] w0 fun e w' => e = .returned (.bool true) ∧ Ext w0 w' := by
  have hS := St.start w0 NoM
  obtain ⟨hl, hb⟩ := valid_iff.1 hv
  have hn5 := hg.n5
  have hn2 := hg.n2
  have HP := Lib.hid (And.intro hp (And.intro hg hb))
  have h1 := hp.len
  have hne : ((xs.length : Int) != (p.len.length : Int)) = false := by simp [hl]
  have HL := Lib.hid hl
  have hx5 : xs.length ≤ 5 := by omega
  clear hp hg hb hv hl
  obtain ⟨A1, c1, A2, c2, A3, c3⟩ := v
  simp only [PV.val] at *
  go_enter Try.func68, Try.ntmps68
  go_wp2_with (first | (go_at_call 36; refine (check_good ⟨A1, c1, A2, c2, A3, c3⟩ p _ (HP.out.1.ext hS.toExt) HP.out.2.1).mono ?_; rintro e w ⟨rfl, hx1⟩; replace hS := hS.ext hx1) | (refine oL ?_; (first | refine sL1 hS rfl rfl rfl ?_ | refine sL2 hS rfl rfl rfl ?_ | refine sL3 hS rfl rfl ?_ | refine sL4 hS rfl rfl ?_ | refine sL5 hS rfl rfl ?_ | refine sL6 hS rfl rfl ?_ | refine sL7 hS rfl rfl ?_)) | ((first | (refine oB ?_; first | refine sB1 hS rfl rfl ?_ | refine sB2 hS rfl rfl ?_)); clear hS; first | ((fail_if_success guard_hyp g1); intro g1 w hS) | ((fail_if_success guard_hyp g2); intro g2 w hS) | fail) | fail)
  go_loopw [20] (fun i wr => ∃ k : Nat, k ≤ xs.length ∧ i = .int .i64 k ∧ St w0 NoM [blk g1 [.slice A1 p.len.length c1, .slice A2 p.ck.length c2, .slice A3 p.arcs.length c3] 28] wr) (fun i _ => xs.length - (intOf i).toNat)
  case atStart => exact ⟨0, Nat.zero_le _, rfl, hS⟩
  case round =>
    obtain ⟨k, hk, rfl, hS⟩ := hrel
    by_cases hlt : k < xs.length
    · have hlt2 : k < p.len.length := by have := HL.out; omega
      have hlt' : (k : Int) < p.len.length := by omega
      have hbd := HP.out.2.2 k hlt2
      obtain ⟨b1, o1, rfl, _, hca⟩ := h1.atNS hlt2
      obtain ⟨b2, o2, rfl, _, hcb⟩ := hx.atNS hlt
      generalize nth xs k = y at *
      generalize nth p.len k = m at *
      have d0 : decide (y < 0) = false := by simp; omega
      have d1 : decide (m < y) = false := by simp; omega
      go_wp2_with (first | (refine oL ?_; (first | refine sL1 hS rfl rfl rfl ?_ | refine sL2 hS rfl rfl rfl ?_ | refine sL3 hS rfl rfl ?_ | refine sL4 hS rfl rfl ?_ | refine sL5 hS rfl rfl ?_ | refine sL6 hS rfl rfl ?_ | refine sL7 hS rfl rfl ?_)) | ((first | (refine oB ?_; first | refine sB1 hS rfl rfl ?_ | refine sB2 hS rfl rfl ?_)); clear hS; first | ((fail_if_success guard_hyp g1); intro g1 w hS) | ((fail_if_success guard_hyp g2); intro g2 w hS) | fail) | fail)
      go_roundw
      case measure => simp [intOf]; omega
      exact ⟨k + 1, by omega, by go_num, hS⟩
    · go_wp2_with (first | (refine oL ?_; (first | refine sL1 hS rfl rfl rfl ?_ | refine sL2 hS rfl rfl rfl ?_ | refine sL3 hS rfl rfl ?_ | refine sL4 hS rfl rfl ?_ | refine sL5 hS rfl rfl ?_ | refine sL6 hS rfl rfl ?_ | refine sL7 hS rfl rfl ?_)) | ((first | (refine oB ?_; first | refine sB1 hS rfl rfl ?_ | refine sB2 hS rfl rfl ?_)); clear hS; first | ((fail_if_success guard_hyp g1); intro g1 w hS) | ((fail_if_success guard_hyp g2); intro g2 w hS) | fail) | fail)
      go_ret
      exact ⟨rfl, hS.toExt⟩
end Go.Proofs.Ytombhhhaidmpeaa
