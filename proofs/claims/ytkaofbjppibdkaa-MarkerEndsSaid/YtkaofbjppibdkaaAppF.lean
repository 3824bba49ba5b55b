/- append onto a slice without spare room: a new row. No condition. -/
import Derived.Test.YtkaofbjppibdkaaArms
import Derived.Test.YtkaofbjppibdkaaMakeA
namespace Go.Proofs.Ytkaofbjppibdkaa
open Go.RowKit
set_option linter.unusedVariables false
set_option linter.unusedSectionVars false

theorem run_app_full {P : Program} {t e : TypeId} {size bytes : Nat} (hT : ElemTy P t e size bytes) (w : World) (ty : TypeId) {S S' : Nat → Prop} (A : Option Addr) (n : Nat) (xs : List Value) (hlx : xs.length = n * size) (hx : RV S w A xs)
    (a : Addr) (m c : Nat) (news : List Value) (hl : news.length = m * size) (hr : RV S' w (some a) news) (hm : 0 < m) (hb : (n + m) * bytes ≤ 140737488355328) (hA : A = none → n = 0) :
    ∃ L c' w', (Builtin.append_ #[t, t] ty #[.slice A n n, .slice (some a) m c]).run P w = .ok (.slice L (n + m) c') w' ∧ w'.ownsRow w.heap.size e size (.slice L (n + m) c') (n + m) (xs ++ news) ∧ Ext w w' := by
  obtain ⟨i, z, hi, hz, hs, hby, hzs⟩ := hT.hi
  have h63 : n + m ≤ maxLen := by
    have : n + m ≤ (n + m) * bytes := Nat.le_mul_of_pos_right _ hT.hby
    unfold maxLen; omega
  have hsmall : n + m ≤ 9223372036854775807 := by simp only [maxLen] at h63; omega
  have hc : ∀ {B : Addr} {S : Nat → Prop} {us : List Value}, RV S w (some B) us → ∀ j u, us[j]? = some u → w.cell? (B.add j) = some u := fun h j u hu => by
    obtain ⟨b, o, e, _, hc⟩ := h j u hu
    injection e with e; subst e; rw [add_mk]; exact hc
  subst hs
  subst hby
  have hlen : (xs ++ news).length = (n + m) * i.size := by rw [List.length_append, hlx, hl, Nat.add_mul]
  have grown : ∀ (old : Nat), old < n + m →
      (w.drew.alloc (.cells (xs.toArray ++ news.toArray ++ Builtin.zeroCells z.cells (grownCap w (n + m) old e - (n + m))) e)).ownsRow w.heap.size e i.size
        (.slice (some ⟨w.heap.size, 0, none⟩) (n + m) (grownCap w (n + m) old e)) (n + m) (xs ++ news) ∧
      Ext w (w.drew.alloc (.cells (xs.toArray ++ news.toArray ++ Builtin.zeroCells z.cells (grownCap w (n + m) old e - (n + m))) e)) := by
    intro old ho
    have hge := grownCap_ge w (n + m) old e
    have hcm : grownCap w (n + m) old e ≤ maxLen := grownCap_le_maxLen w (n + m) old e h63
    refine ⟨⟨hlen, .inr ⟨w.heap.size, _, _, rfl, Nat.le_refl _, heap_new w.drew _, hge, hcm, ?_, ?_⟩⟩, (Ext.refl' w).drew'.alloc' _⟩
    · simp only [Array.size_append, List.size_toArray, size_zeroCells, hzs, hlx, hl, ← Nat.add_mul]
      congr 1
      omega
    · simp only [Array.toList_append, List.append_assoc]
      rw [← List.append_assoc, ← hlen]
      exact List.take_left
  cases A with
  | none =>
    have h0 := hA rfl
    subst h0
    have hx0 : xs = [] := List.eq_nil_of_length_eq_zero (by simpa using hlx)
    subst hx0
    have hr' := run_append_nil (P := P) w t ty e i z hT.ht hi hz a m c news hl (hc hr) hm (by omega) (by simp only [Nat.zero_add] at hb; omega)
    have hgr := grown 0 (by omega)
    simp only [Nat.zero_add, List.nil_append, Array.empty_append] at hgr ⊢
    exact ⟨_, _, _, hr', hgr.1, hgr.2⟩
  | some b =>
    have hr' := run_append_grow (P := P) w t ty e i z hT.ht hi hz b n n xs hlx (hc hx) a m c news hl (hc hr) (by omega) (by omega) (growslice_fits (by omega) hb)
    have hgr := grown n (by omega)
    exact ⟨_, _, _, hr', hgr.1, hgr.2⟩
section
variable {P : Program} {ops : Array Oper} {Q : Exit → Act → World → Prop} {a : Act} {w w0 : World} {M : Nat → Prop} {cs ds : List (Chunk w0 M)} {f : Chunk w0 M → List (Chunk w0 M)} {rest : List Oper} {d : Option Tmp} {tt ty t e : TypeId} {pos : String} {af : Array Edge} {gd : Option (Nat × Bool)} {x y : Operand}
/-- append of what was just laid out onto a full slice -/
theorem st_appF {sz bytes n m c g : Nat} {A : Option Addr} [hT : ElemC P t e sz bytes] (hS : St w0 M cs w) (hw : Region.wanted ⟨d, .call { callee := .builtin .append, args := #[x, y], argTypes := #[t, t] }, tt, pos, af, gd⟩ (yielded ops a.tmps) = true)
    (hx' : oval a x = some (.slice A n n)) (hy' : oval a y = some (.slice (some ⟨g, 0, none⟩) m c)) {news xs : List Value} {t' : TypeId} {S : Nat → Prop} [hd : DropB g cs news t' ds] (hr : RV S w A xs) (hlx : xs.length = n * sz) (hl : news.length = m * sz) (hm : 0 < m) (hA : A = none → n = 0) (hb : (n + m) * bytes ≤ 140737488355328)
    (k : ∀ L c' w', n + m ≤ c' → c' ≤ 9223372036854775807 → St w0 M (row (.slice L (n + m) c') e sz (n + m) (xs ++ news) :: ds) w' → wpList P ops Q rest (a.put d (.slice L (n + m) c')) w') :
    wpList P ops Q (⟨d, .call { callee := .builtin .append, args := #[x, y], argTypes := #[t, t] }, tt, pos, af, gd⟩ :: rest) a w := by
  obtain ⟨L, c', w', hrun, ho, hE⟩ := run_app_full hT.h w tt A n xs hlx hr ⟨g, 0, none⟩ m c news hl (RV.ofBlk (hS.all _ hd.mem : w.heap[g]? = _)) hm hb hA
  obtain ⟨L', c'', hv, hc1, hc2⟩ := own_form ho
  injection hv with _ _ hv
  subst hv
  refine st_run hw (v := .slice L (n + m) c') (w' := w') ?_ (k L c' w' hc1 hc2 ((hS.sub hd.sub).addRow ho hE))
  simp only [execOp, resolve, invoke, builtin, Sem.run_bind, Sem.run_pure, Result.andThen_ok, List.map_toArray, List.map_cons, List.map_nil, oval_eval hx', oval_eval hy', hrun]
/-- one number onto a full slice of numbers -/
theorem st_appFI {bytes n c g : Nat} {A : Option Addr} {xs : List Int} {z : Int} [hT : ElemC P t e 1 bytes] (hS : St w0 M cs w) (hw : Region.wanted ⟨d, .call { callee := .builtin .append, args := #[x, y], argTypes := #[t, t] }, tt, pos, af, gd⟩ (yielded ops a.tmps) = true)
    (hx' : oval a x = some (.slice A n n)) (hy' : oval a y = some (.slice (some ⟨g, 0, none⟩) 1 c)) {t' : TypeId} {S : Nat → Prop} [hd : DropB g cs [.int .i64 z] t' ds] (hr : RI S w A xs) (hlx : xs.length = n) (hA : A = none → n = 0) (hb : (n + 1) * bytes ≤ 140737488355328)
    (k : ∀ L c' w', n + 1 ≤ c' → c' ≤ 9223372036854775807 → St w0 M (irow e L c' (xs ++ [z]) :: ds) w' → wpList P ops Q rest (a.put d (.slice L (xs ++ [z]).length c')) w') :
    wpList P ops Q (⟨d, .call { callee := .builtin .append, args := #[x, y], argTypes := #[t, t] }, tt, pos, af, gd⟩ :: rest) a w := by
  subst hlx
  refine st_appF hS hw hx' hy' hr (by simp) (by simp) (by omega) hA hb ?_
  intro L c' w' h1 h2 h3
  have := k L c' w' h1 h2
  rw [List.length_append] at this
  rw [row_snoc] at h3
  exact this h3
theorem RA.rv {S : Nat → Prop} {A : Option Addr} {az : List Arc} (h : RA S w A az) : RV S w A (az.flatMap arcCells) := by
  obtain ⟨vs, h1, h2⟩ := h
  rw [← reps_arcs_eq h2]; exact h1
theorem flat_length : ∀ (az : List Arc), (az.flatMap arcCells).length = az.length * 4
  | [] => rfl
  | a :: az => by
    rw [List.flatMap_cons, List.length_append, flat_length az, List.length_cons]
    simp only [arcCells, List.length_cons, List.length_nil]; omega
/-- one arc onto a full slice of arcs -/
theorem st_appFA {bytes n c g : Nat} {A : Option Addr} {az : List Arc} {us : List Value} (z : Arc) [hT : ElemC P t e 4 bytes] (hS : St w0 M cs w) (hw : Region.wanted ⟨d, .call { callee := .builtin .append, args := #[x, y], argTypes := #[t, t] }, tt, pos, af, gd⟩ (yielded ops a.tmps) = true)
    (hx' : oval a x = some (.slice A n n)) (hy' : oval a y = some (.slice (some ⟨g, 0, none⟩) 1 c)) {t' : TypeId} {S : Nat → Prop} [hd : DropB g cs us t' ds] (hr : RA S w A az) (hlx : az.length = n) (hu : us = arcCells z) (hA : A = none → n = 0) (hb : (n + 1) * bytes ≤ 140737488355328)
    (k : ∀ L c' w', n + 1 ≤ c' → c' ≤ 9223372036854775807 → St w0 M (row (.slice L (n + 1) c') e 4 (n + 1) ((az ++ [z]).flatMap arcCells) :: ds) w' → wpList P ops Q rest (a.put d (.slice L (n + 1) c')) w') :
    wpList P ops Q (⟨d, .call { callee := .builtin .append, args := #[x, y], argTypes := #[t, t] }, tt, pos, af, gd⟩ :: rest) a w := by
  subst hlx hu
  refine st_appF hS hw hx' hy' hr.rv (flat_length az) (by simp [arcCells]) (by omega) hA hb ?_
  rw [List.flatMap_append, List.flatMap_cons, List.flatMap_nil, List.append_nil] at k
  exact k
end
theorem RV.none_len {S : Nat → Prop} {w : World} {vs : List Value} (h : RV S w none vs) : vs = [] := by
  cases vs with
  | nil => rfl
  | cons u r => obtain ⟨b, o, e, _⟩ := h 0 u rfl; cases e
set_option maxHeartbeats 800000 in
theorem clipI_any (A : Option Addr) (n c : Nat) (w0 : World) (hc : n ≤ c) (hc' : c ≤ 9223372036854775807) (hA : A = none → n = 0) :
    Calls Try.prog 56 #[.slice A n c] w0 fun e w' => e = .returned (.slice A n n) ∧ Ext w0 w' := by
  have hS := St.start w0 NoM
  cases A with
  | none =>
    have h0 := hA rfl
    subst h0
    go_enter Try.func56, Try.ntmps56
    go_wp2_with (fail)
    go_ret
    exact ⟨rfl, hS.toExt⟩
  | some a =>
    clear hA
    go_enter Try.func56, Try.ntmps56
    go_wp2_with (fail)
    go_ret
    exact ⟨by simp, hS.toExt⟩
end Go.Proofs.Ytkaofbjppibdkaa
