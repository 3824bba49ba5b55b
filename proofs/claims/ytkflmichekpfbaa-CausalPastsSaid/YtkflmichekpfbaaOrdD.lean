/- causal.Order: upcoming, IndexFunc, Order. Conditions: the pattern is good and lies in memory. -/
import Derived.Test.YtkflmichekpfbaaOrdC
namespace Go.Proofs.Ytkflmichekpfbaa
open Go.RowKit
set_option linter.unusedVariables false
set_option linter.unusedSimpArgs false
set_option linter.unusedSectionVars false

theorem made2 {z u0 u1 : Value} (h : z.cells = #[u0, u1]) : ∀ (n : Nat), (madeCells z.cells (n * 2)).toList = (List.replicate n [u0, u1]).flatten
  | 0 => by simp [madeCells]
  | n + 1 => by
    have ih := made2 h n
    rw [h] at ih ⊢
    simp only [madeCells, Array.toList_map, Array.toList_range] at ih ⊢
    rw [show (n + 1) * 2 = n * 2 + 1 + 1 by omega, List.range_succ, List.range_succ, List.map_append, List.map_append, ih, List.replicate_succ', List.flatten_append]
    simp [Nat.mul_comm n 2, Nat.mul_add_mod]
theorem St.rowBlk {w0 w : World} {M : Nat → Prop} {cs : List (Chunk w0 M)} {e : TypeId} {g n sz : Nat} {vs : List Value} (h : St w0 M (row (.slice (some ⟨g, 0, none⟩) n n) e sz n vs :: cs) w) : St w0 M (blk g vs e :: cs) w := by
  have ho : w.ownsRow 0 e sz (.slice (some ⟨g, 0, none⟩) n n) n vs := h.head
  refine h.upd (Keep.refl _ _) ?_ (fun k hk => .inl ?_)
  · obtain ⟨h1, h2⟩ := ho
    rcases h2 with ⟨h2, _⟩ | ⟨g', cap, cur, h2, _, h4, h5, h6, h7, h8⟩
    · cases h2
    · injection h2 with e1 e2 e3
      injection e1 with e1
      injection e1 with e1
      subst e1 e3
      show w.heap[g]? = _
      rw [h4, ← h8, ← h7, ← Array.length_toList, List.take_length]
  · rw [show k = g from hk]; rfl
section
variable {P : Program} {ops : Array Oper} {Q : Exit → Act → World → Prop} {a : Act} {w w0 : World} {M : Nat → Prop} {cs : List (Chunk w0 M)} {rest : List Oper} {d : Option Tmp} {tt ty e : TypeId} {pos : String} {af : Array Edge} {gd : Option (Nat × Bool)} {x y : Operand}
/-- make of a slice of structs of two cells -/
theorem sM2 {bytes n : Nat} {z1 z2 : Int} {u0 u1 : Value} [hT : ElemC P ty e 2 bytes] [hz : TyZ P e [u0, u1]] (hS : St w0 M cs w) (hw : Region.wanted ⟨d, .makeSlice ty x y, tt, pos, af, gd⟩ (yielded ops a.tmps) = true)
    (hx' : oval a x = some (.int .i64 z1)) (hy' : oval a y = some (.int .i64 z2)) (h1 : z1 = n) (h2 : z2 = n) (hb : bytes * n ≤ 140737488355328)
    (k : ∀ g w', St w0 M (blk g (List.replicate n [u0, u1]).flatten e :: cs) w' → wpList P ops Q rest (a.put d (.slice (some ⟨g, 0, none⟩) n n)) w') : wpList P ops Q (⟨d, .makeSlice ty x y, tt, pos, af, gd⟩ :: rest) a w := by
  refine st_mkG (n := n) hS hw hx' hy' h1 h2 hb ?_
  intro g w' z hz' h
  have hzc : z.cells = #[u0, u1] := by
    have h3 := hz.zero
    cases hi : P.info? e with
    | none => rw [hi] at h3; cases h3
    | some i =>
      rw [hi] at h3 hz'
      simp only [Option.map_some, Option.some.injEq] at h3 hz'
      rw [hz'] at h3
      simp only [Option.map_some, Option.some.injEq] at h3
      exact Array.toList_inj.1 h3
  rw [made2 hzc] at h
  exact k g w' h.rowBlk
end
/-- the next event of each process -/
def upAt (p : Pat) (x : List Int) (q : Nat) : Nat × Int := if nth x q < nth p.len q then (q, nth x q + 1) else (0, 0)
def upL (p : Pat) (x : List Int) (k : Nat) : List (Nat × Int) := (List.range p.len.length).map fun q => if q < k then upAt p x q else (0, 0)
theorem upL_zero (p : Pat) (x : List Int) : (upL p x 0).flatMap ptCells = (List.replicate p.len.length [.int .i64 0, .int .i64 0]).flatten := by
  have : upL p x 0 = List.replicate p.len.length (0, 0) := by
    apply List.ext_getElem (by simp [upL])
    intro i h1 h2
    simp [upL]
  rw [this, List.flatMap_def, List.map_replicate]
  rfl
theorem upL_length (p : Pat) (x : List Int) (k : Nat) : (upL p x k).length = p.len.length := by simp [upL]
theorem upL_succ {p : Pat} {x : List Int} {k : Nat} (hk : k < p.len.length) : upL p x (k + 1) = (upL p x k).set k (upAt p x k) := by
  apply List.ext_getElem (by simp [upL])
  intro i h1 h2
  have hi : i < p.len.length := by simpa [upL] using h1
  simp only [upL, List.getElem_map, List.getElem_range, List.getElem_set]
  by_cases e : k = i
  · subst e; simp
  · rw [if_neg e]
    by_cases h3 : i < k
    · rw [if_pos h3, if_pos (by omega)]
    · rw [if_neg h3, if_neg (by omega)]
theorem upL_same {p : Pat} {x : List Int} {k : Nat} (hk : k < p.len.length) (h : ¬ nth x k < nth p.len k) : upL p x (k + 1) = upL p x k := by
  rw [upL_succ hk]
  apply List.ext_getElem (by simp)
  intro i h1 h2
  rw [List.getElem_set]
  split
  · rename_i e; subst e
    simp [upL, upAt, h]
  · rfl
theorem puts_pt {l : List (Nat × Int)} {j : Nat} (hj : j < l.length) (q : Nat) (k : Int) : puts (l.flatMap ptCells) (j * 2) [.int .i64 (q : Int), .int .i64 k] = (l.set j (q, k)).flatMap ptCells := by
  simp only [puts]
  induction l generalizing j with
  | nil => simp at hj
  | cons a l ih =>
    match j with
    | 0 => simp [ptCells]
    | j + 1 =>
      have := ih (j := j) (by simpa using hj)
      simp only [List.flatMap_cons, List.set_cons_succ, ptCells, List.cons_append, List.nil_append] at this ⊢
      rw [show (j + 1) * 2 = j * 2 + 1 + 1 by omega]
      simp only [List.set_cons_succ]
      rw [this]
set_option maxRecDepth 100000 in
set_option maxHeartbeats 3200000 in
theorem upcoming_any {S T : Nat → Prop} (p : Pat) (x : List Int) (gh : Nat) (A1 X : Option Addr) (c1 cx : Nat) (w0 : World) (hg : Good p) (hv : validB p.len x = true) (h0 : w0.cell? ⟨gh, 0, none⟩ = some (.slice A1 p.len.length c1)) (h1 : RI S w0 A1 p.len) (hx : RI T w0 X x) :
    Calls Try.prog 75 #[.pointer (some ⟨gh, 0, none⟩), .slice X p.len.length cx] w0 (RetRow w0 37 2 p.len.length ((upL p x p.len.length).flatMap ptCells)) := by
  have hS := St.start w0 NoM
  have hn5 := hg.n5
  obtain ⟨hxl, hxb⟩ := valid_iff.1 hv
  have HX := Lib.hid (And.intro hxl (And.intro hxb hg))
  clear hv hxl hxb hg
  go_enter Try.func75, Try.ntmps75
  go_wp2_with (first | (refine sM2 (n := p.len.length) hS rfl rfl rfl rfl rfl (by omega) ?_; clear hS; intro g1 w hS) | (refine oL ?_; (first | refine sL1 hS rfl rfl rfl ?_ | refine sL2 hS rfl rfl rfl ?_ | refine sL3 hS rfl rfl ?_ | refine sL4 hS rfl rfl ?_ | refine sL5 hS rfl rfl ?_ | refine sL6 hS rfl rfl ?_ | refine sL7 hS rfl rfl ?_)) | (refine oS ?_; ((first | refine sS1 hS rfl rfl rfl ?_ | refine sS2 hS rfl rfl rfl ?_ | refine sS3 hS rfl rfl rfl ?_ | refine sS4 hS rfl rfl rfl ?_ | refine sS5 hS rfl rfl rfl ?_); clear hS; intro w hS)) | ((first | refine sM1 hS rfl rfl rfl ?_); clear hS; first | ((fail_if_success guard_hyp g1); intro g1 w hS) | ((fail_if_success guard_hyp g2); intro g2 w hS) | fail) | fail)
  rw [← upL_zero p x] at hS
  go_loopw [13] (fun s13 wr => ∃ (k : Nat), k ≤ p.len.length ∧ s13 = .int .i64 k ∧ St w0 NoM [blk g1 ((upL p x k).flatMap ptCells) 37] wr) (fun s13 _ => p.len.length - (intOf s13).toNat)
  case atStart => exact ⟨0, by omega, rfl, hS⟩
  case round =>
    obtain ⟨k, hk, rfl, hS⟩ := hrel
    by_cases hlt : k < p.len.length
    · obtain ⟨b1, o1, rfl, _, hc1⟩ := h1.atNS hlt
      obtain ⟨b2, o2, rfl, _, hc2⟩ := hx.atNS (k := k) (by rw [HX.out.1]; exact hlt)
      have hxk := HX.out.2.1 k hlt
      have hhi := HX.out.2.2.hi k hlt
      have hkl' : (k : Int) < p.len.length := by omega
      by_cases hgo : nth x k < nth p.len k
      · have HUP := Lib.hid (show upL p x (k + 1) = (upL p x k).set k (k, nth x k + 1) by rw [upL_succ hlt, upAt, if_pos hgo])
        have HPU := Lib.hid (puts_pt (l := upL p x k) (j := k) (by rw [upL_length]; exact hlt) k (nth x k + 1))
        have HLEN := Lib.hid (show k * 2 + 2 ≤ ((upL p x k).flatMap ptCells).length by
          have : ((upL p x k).flatMap ptCells).length = p.len.length * 2 := by rw [pts_flat, upL_length]
          omega)
        generalize nth x k = xk at *
        generalize nth p.len k = lk at *
        have d1 : decide (xk < lk) = true := decide_eq_true hgo
        go_wp2_with (first | (refine oS ?_; refine sS5 hS rfl rfl rfl ?_ rfl (by simp [Value.oneCell']) HLEN.out; clear hS; intro w hS) | (refine oL ?_; (first | refine sL1 hS rfl rfl rfl ?_ | refine sL2 hS rfl rfl rfl ?_ | refine sL3 hS rfl rfl ?_ | refine sL4 hS rfl rfl ?_ | refine sL5 hS rfl rfl ?_ | refine sL6 hS rfl rfl ?_ | refine sL7 hS rfl rfl ?_)) | (refine oS ?_; ((first | refine sS1 hS rfl rfl rfl ?_ | refine sS2 hS rfl rfl rfl ?_ | refine sS3 hS rfl rfl rfl ?_ | refine sS4 hS rfl rfl rfl ?_ | refine sS5 hS rfl rfl rfl ?_); clear hS; intro w hS)) | ((first | refine sM1 hS rfl rfl rfl ?_); clear hS; first | ((fail_if_success guard_hyp g1); intro g1 w hS) | ((fail_if_success guard_hyp g2); intro g2 w hS) | fail) | fail)
        go_roundw
        case measure => simp [intOf]; omega
        refine ⟨k + 1, by omega, by go_num, ?_⟩
        rw [HUP.out, ← HPU.out]
        exact hS
      · have HUP := Lib.hid (upL_same hlt hgo)
        generalize nth x k = xk at *
        generalize nth p.len k = lk at *
        have d1 : decide (xk < lk) = false := decide_eq_false hgo
        go_wp2_with (first | (refine oL ?_; (first | refine sL1 hS rfl rfl rfl ?_ | refine sL2 hS rfl rfl rfl ?_ | refine sL3 hS rfl rfl ?_ | refine sL4 hS rfl rfl ?_ | refine sL5 hS rfl rfl ?_ | refine sL6 hS rfl rfl ?_ | refine sL7 hS rfl rfl ?_)) | (refine oS ?_; ((first | refine sS1 hS rfl rfl rfl ?_ | refine sS2 hS rfl rfl rfl ?_ | refine sS3 hS rfl rfl rfl ?_ | refine sS4 hS rfl rfl rfl ?_ | refine sS5 hS rfl rfl rfl ?_); clear hS; intro w hS)) | ((first | refine sM1 hS rfl rfl rfl ?_); clear hS; first | ((fail_if_success guard_hyp g1); intro g1 w hS) | ((fail_if_success guard_hyp g2); intro g2 w hS) | fail) | fail)
        go_roundw
        case measure => simp [intOf]; omega
        refine ⟨k + 1, by omega, by go_num, ?_⟩
        rw [HUP.out]
        exact hS
    · have hke : k = p.len.length := by omega
      subst hke
      go_wp2_with (first | (refine oL ?_; (first | refine sL1 hS rfl rfl rfl ?_ | refine sL2 hS rfl rfl rfl ?_ | refine sL3 hS rfl rfl ?_ | refine sL4 hS rfl rfl ?_ | refine sL5 hS rfl rfl ?_ | refine sL6 hS rfl rfl ?_ | refine sL7 hS rfl rfl ?_)) | (refine oS ?_; ((first | refine sS1 hS rfl rfl rfl ?_ | refine sS2 hS rfl rfl rfl ?_ | refine sS3 hS rfl rfl rfl ?_ | refine sS4 hS rfl rfl rfl ?_ | refine sS5 hS rfl rfl rfl ?_); clear hS; intro w hS)) | ((first | refine sM1 hS rfl rfl rfl ?_); clear hS; first | ((fail_if_success guard_hyp g1); intro g1 w hS) | ((fail_if_success guard_hyp g2); intro g2 w hS) | fail) | fail)
      go_ret
      replace hS := hS.blkRow (g := g1) (n := p.len.length) (sz := 2) (by rw [pts_flat, upL_length]) (by omega)
      exact hS.ret rfl
/-- the first index of a list at which f holds, or -1 -/
def idxF (f : Nat × Int → Bool) (l : List (Nat × Int)) : Int := match l.findIdx? f with | some i => (i : Int) | none => -1
set_option maxRecDepth 100000 in
set_option maxHeartbeats 3200000 in
theorem indexf_any {S : Nat → Prop} (X : Option Addr) (c gv ga : Nat) (l : List (Nat × Int)) (f : Nat × Int → Bool) (w0 : World) (hx : RPt S w0 X l) (hl : l.length ≤ 1000) (hf : ∀ w, Ext w0 w → ∀ (q : Nat) (k : Int), (q, k) ∈ l → Calls Try.prog 76 #[.agg #[.int .i64 (q : Int), .int .i64 k], .pointer (some ⟨gv, 0, none⟩), .pointer (some ⟨ga, 0, none⟩)] w fun e w' => e = .returned (.bool (f (q, k))) ∧ Ext w w') :
    Calls Try.prog 74 #[.slice X l.length c, .func (.func 76) #[] #[.pointer (some ⟨gv, 0, none⟩), .pointer (some ⟨ga, 0, none⟩)]] w0 fun e w' => e = .returned (.int .i64 (idxF f l)) ∧ Ext w0 w' := by
  have hS := St.start w0 NoM
  have HF := Lib.hid hf
  clear hf
  go_enter Try.func74, Try.ntmps74
  go_wp2_with (first | (refine oL ?_; (first | refine sL1 hS rfl rfl rfl ?_ | refine sL2 hS rfl rfl rfl ?_ | refine sL3 hS rfl rfl ?_ | refine sL4 hS rfl rfl ?_ | refine sL5 hS rfl rfl ?_ | refine sL6 hS rfl rfl ?_ | refine sL7 hS rfl rfl ?_)) | fail)
  go_loopw [8] (fun s8 wr => ∃ (k : Nat), k ≤ l.length ∧ s8 = .int .i64 k ∧ Hid (∀ a ∈ l.take k, f a = false) ∧ St w0 NoM [] wr) (fun s8 _ => l.length - (intOf s8).toNat)
  case atStart => exact ⟨0, by omega, rfl, Lib.hid (by simp), hS⟩
  case round =>
    obtain ⟨k, hk, rfl, HK, hS⟩ := hrel
    by_cases hlt : k < l.length
    · obtain ⟨b2, o2, rfl, _, hcs⟩ := hx.fcs hlt
      have HM := Lib.hid (And.intro (List.getElem_mem hlt) (List.take_succ_eq_append_getElem hlt))
      have HI : Hid (f l[k] = true → idxF f l = (k : Int)) := Lib.hid (fun h => by
        have : l.findIdx? f = some k := by
          rw [List.findIdx?_eq_some_iff_getElem]
          refine ⟨hlt, h, fun j hj => ?_⟩
          have := HK.out l[j] (by rw [List.mem_take_iff_getElem]; exact ⟨j, by omega, rfl⟩)
          simp [this]
        simp [idxF, this])
      generalize l[k] = pt at *
      obtain ⟨q, kk⟩ := pt
      simp only [ptCells] at hcs
      cases hb : f (q, kk) with
      | true =>
        have HB := Lib.hid hb
        clear hb
        go_wp2_with (first | (go_at_call 76; refine (HF.out _ hS.toExt q kk HM.out.1).mono ?_; rintro e w ⟨rfl, hx1⟩; replace hS := hS.ext hx1; rw [HB.out]) | (refine oL ?_; (first | refine sL1 hS rfl rfl rfl ?_ | refine sL2 hS rfl rfl rfl ?_ | refine sL3 hS rfl rfl ?_ | refine sL4 hS rfl rfl ?_ | refine sL5 hS rfl rfl ?_ | refine sL6 hS rfl rfl ?_ | refine sL7 hS rfl rfl ?_)) | fail)
        go_ret
        exact ⟨by rw [HI.out HB.out]; rfl, hS.toExt⟩
      | false =>
        have HB := Lib.hid hb
        clear hb
        go_wp2_with (first | (go_at_call 76; refine (HF.out _ hS.toExt q kk HM.out.1).mono ?_; rintro e w ⟨rfl, hx1⟩; replace hS := hS.ext hx1; rw [HB.out]) | (refine oL ?_; (first | refine sL1 hS rfl rfl rfl ?_ | refine sL2 hS rfl rfl rfl ?_ | refine sL3 hS rfl rfl ?_ | refine sL4 hS rfl rfl ?_ | refine sL5 hS rfl rfl ?_ | refine sL6 hS rfl rfl ?_ | refine sL7 hS rfl rfl ?_)) | fail)
        go_roundw
        case measure => simp [intOf]; omega
        refine ⟨k + 1, by omega, by go_num, Lib.hid (fun a ha => ?_), hS⟩
        rw [HM.out.2] at ha
        rcases List.mem_append.1 ha with ha | ha
        · exact HK.out a ha
        · rw [List.mem_singleton.1 ha]; exact HB.out
    · have hid : idxF f l = -1 := by
        have h := HK.out
        rw [List.take_of_length_le (by omega)] at h
        have : l.findIdx? f = none := by rw [List.findIdx?_eq_none_iff]; exact h
        simp [idxF, this]
      have HID := Lib.hid hid
      clear hid
      go_wp2_with (first | (refine oL ?_; (first | refine sL1 hS rfl rfl rfl ?_ | refine sL2 hS rfl rfl rfl ?_ | refine sL3 hS rfl rfl ?_ | refine sL4 hS rfl rfl ?_ | refine sL5 hS rfl rfl ?_ | refine sL6 hS rfl rfl ?_ | refine sL7 hS rfl rfl ?_)) | fail)
      go_ret
      exact ⟨by rw [HID.out]; rfl, hS.toExt⟩
theorem ask_up {p : Pat} {x : List Int} (hv : validB p.len x = true) {q : Nat} (hq : q < p.len.length) : askB p x (upAt p x q) = canB p x q := by
  unfold upAt canB askB
  by_cases h : nth x q < nth p.len q
  · have h0 := ((valid_iff.1 hv).2 q hq).1
    rw [if_pos h, decide_eq_true h, Bool.true_and, decide_eq_true (show 0 < ((q, nth x q + 1) : Nat × Int).2 by simp only; omega), Bool.true_and]
  · rw [if_neg h, decide_eq_false h]; simp
theorem upL_at {p : Pat} {x : List Int} {q : Nat} (hq : q < p.len.length) (h : q < (upL p x p.len.length).length) : (upL p x p.len.length)[q] = upAt p x q := by simp [upL, hq]
theorem idxF_up {p : Pat} {x : List Int} (hv : validB p.len x = true) : idxF (askB p x) (upL p x p.len.length) = match nextQ p x with | some q => (q : Int) | none => -1 := by
  cases hn : nextQ p x with
  | some q =>
    obtain ⟨hq, hc, hb⟩ := nextQ_some hn
    have : (upL p x p.len.length).findIdx? (askB p x) = some q := by
      rw [List.findIdx?_eq_some_iff_getElem]
      refine ⟨by rw [upL_length]; exact hq, by rw [upL_at hq, ask_up hv hq]; exact hc, fun j hj => ?_⟩
      rw [upL_at (by omega), ask_up hv (by omega), hb j hj]
      simp
    simp [idxF, this]
  | none =>
    have hb := nextQ_none.1 hn
    have : (upL p x p.len.length).findIdx? (askB p x) = none := by
      rw [List.findIdx?_eq_none_iff]
      intro a ha
      obtain ⟨q, hq, rfl⟩ := List.getElem_of_mem ha
      have hq' : q < p.len.length := by rw [upL_length] at hq; exact hq
      rw [upL_at hq', ask_up hv hq', hb q hq']
    simp [idxF, this]
end Go.Proofs.Ytkflmichekpfbaa
