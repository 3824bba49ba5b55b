/- Rows of messages and rows of lists, as pieces of memory. No condition. -/
import Derived.Test.YtkaofbjppibdkaaGc
import Derived.Test.YtkaofbjppibdkaaGd
import Derived.Test.YtkaofbjppibdkaaGb
import Derived.ProofKit
import Derived.OpenShut
import Derived.Carry
import Derived.ChangeCalls
import Derived.Test.YtkaofbjppibdkaaGa
namespace Go.Proofs.Ytkaofbjppibdkaa
open Go.RowKit
set_option linter.unusedVariables false
set_option linter.unusedSimpArgs false
set_option linter.unusedSectionVars false

theorem reps_arcs (w : World) : ∀ (arcs : List Arc), Reps (repArc w) 4 (arcs.flatMap arcCells) arcs
  | [] => rfl
  | a :: l => ⟨arcCells a, l.flatMap arcCells, by simp, rfl, rfl, reps_arcs w l⟩
theorem reps_arcs_eq {w : World} : ∀ {vs : List Value} {arcs : List Arc}, Reps (repArc w) 4 vs arcs → vs = arcs.flatMap arcCells
  | vs, [], h => h
  | vs, a :: l, h => by
    obtain ⟨cs, r, rfl, _, h1, h2⟩ := h
    rw [reps_arcs_eq h2, show cs = arcCells a from h1]; simp
/-- a row of messages -/
abbrev arow {w0 : World} {M : Nat → Prop} (L : Option Addr) (c : Nat) (arcs : List Arc) : Chunk w0 M := row (.slice L arcs.length c) 62 4 arcs.length (arcs.flatMap arcCells)
section
variable {w0 w : World} {M : Nat → Prop} {cs : List (Chunk w0 M)} {f : Chunk w0 M → List (Chunk w0 M)}
theorem St.ra {A : Option Addr} {k c n : Nat} {e : TypeId} {arcs : List Arc} (h : St w0 M cs w) [hp : PickL A cs k c e 4 n (arcs.flatMap arcCells) f] : RA All w A arcs := ⟨_, h.rv (f := f), reps_arcs w arcs⟩
variable {P : Program} {ops : Array Oper} {Q : Exit → Act → World → Prop} {a : Act} {ds : List (Chunk w0 M)} {rest : List Oper} {d : Option Tmp} {tt ty t e : TypeId} {pos : String} {af : Array Edge} {gd : Option (Nat × Bool)} {x y : Operand}
/-- append of one message -/
theorem st_appA {bytes c c1 g n : Nat} {ys : List Arc} {us : List Value} (z : Arc) {L1 : Option Addr} [hT : ElemC P t e 4 bytes] (hS : St w0 M cs w) (hw : Region.wanted ⟨d, .call { callee := .builtin .append, args := #[x, y], argTypes := #[t, t] }, tt, pos, af, gd⟩ (yielded ops a.tmps) = true)
    (hx' : oval a x = some (.slice L1 n c1)) (hy' : oval a y = some (.slice (some ⟨g, 0, none⟩) 1 c)) {t' : TypeId} [hd : DropB g cs us t' ds] (hu : us = arcCells z) [hp : PickR (.slice L1 n c1) ds e 4 n (ys.flatMap arcCells) f] (hb : (n + 1) * bytes ≤ 140737488355328)
    (k : ∀ L c' w', n + 1 ≤ c' → c' ≤ 9223372036854775807 → St w0 M (f (row (.slice L (n + 1) c') e 4 (n + 1) ((ys ++ [z]).flatMap arcCells))) w' → wpList P ops Q rest (a.put d (.slice L (n + 1) c')) w') :
    wpList P ops Q (⟨d, .call { callee := .builtin .append, args := #[x, y], argTypes := #[t, t] }, tt, pos, af, gd⟩ :: rest) a w := by
  subst hu
  refine st_app hS hw hx' hy' rfl (arcCells_one z) hb ?_
  intro L c' w' h1 h2 h3
  have := k L c' w' h1 h2
  rw [List.flatMap_append] at this
  simp only [List.flatMap_cons, List.flatMap_nil, List.append_nil] at this
  exact this h3
/-- two new rows of different kinds -/
theorem St.addRow2 {w' : World} {v1 v2 : Value} {e1 e2 : TypeId} {s1 s2 n1 n2 : Nat} {vs1 vs2 : List Value} (h : St w0 M cs w) (ho1 : w'.ownsRow w.heap.size e1 s1 v1 n1 vs1) (ho2 : w'.ownsRow w.heap.size e2 s2 v2 n2 vs2) (hne : e1 ≠ e2) (hx : Ext w w') : St w0 M (row v1 e1 s1 n1 vs1 :: row v2 e2 s2 n2 vs2 :: cs) w' := by
  refine (h.add (c := pair (row v1 e1 s1 n1 vs1) (row v2 e2 s2 n2 vs2)) hx ⟨own_base ho1 (Nat.zero_le _), own_base ho2 (Nat.zero_le _), fun k hk1 hk2 => ?_⟩ (fun k hk => hk.elim (fun hk => own_block ho1 k hk) (fun hk => own_block ho2 k hk))).split
  rcases ho1.2 with ⟨rfl, _⟩ | ⟨g, cap, cur, rfl, _, hh, _⟩
  · cases hk1
  · have hg : g = k := by injection hk1
    subst hg
    exact own_ne ho2 hh hne.symm hk2
/-- the row at L is forgotten -/
class DropL {w0 : World} {M : Nat → Prop} (L : Option Addr) (cs : List (Chunk w0 M)) (ds : outParam (List (Chunk w0 M))) : Prop where
  sub : ds.Sublist cs
instance {w0 : World} {M : Nat → Prop} (L : Option Addr) (k c : Nat) (e : TypeId) (sz n : Nat) (vs : List Value) (r : List (Chunk w0 M)) : DropL L (row (.slice L k c) e sz n vs :: r) r := ⟨List.sublist_cons_self _ _⟩
instance (priority := low) {w0 : World} {M : Nat → Prop} (L : Option Addr) (d : Chunk w0 M) (r s : List (Chunk w0 M)) [h : DropL L r s] : DropL L (d :: r) (d :: s) := ⟨h.sub.cons_cons d⟩
theorem St.dropL (h : St w0 M cs w) (L : Option Addr) [hd : DropL L cs ds] : St w0 M ds w := h.sub hd.sub
end
/-- own blocks of a piece beside the choices are new -/
theorem St.newC {g0 : Nat} {κ : CK} {r : List Int} {w0 w : World} {cs : List (Chunk w0 (fun k => k = g0))} {f : Chunk w0 (fun k => k = g0) → List (Chunk w0 (fun k => k = g0))} (c : Chunk w0 (fun k => k = g0)) (h : St w0 (fun k => k = g0) cs w) [hp : PickK c cs f] [hq : MemC (cds g0 κ r) (f nop)] : ∀ k, c.own k → w0.heap.size ≤ k := by
  intro k hk
  have h' : St w0 (fun k' => k' = g0) (f c) w := hp.eq ▸ h
  obtain ⟨s, h1, h2⟩ := gap_perm hp.gap c
  have hm : cds g0 κ r ∈ s := by
    rcases List.mem_cons.1 ((h2 nop).mem_iff.2 hq.h) with h3 | h3
    · have := congrArg (fun c => c.own g0) h3
      simp [cds, nop] at this
    · exact h3
  have h3 := h'.perm h1
  rcases h3.new c (by simp) k hk with h4 | h4
  · exact h4
  · exact absurd rfl ((List.pairwise_cons.1 h3.apart).1 _ hm g0 (h4 ▸ hk))
theorem RowOk.length_le {l : List Int} {m : Int} (h : RowOk l m) : (l.length : Int) ≤ m + 1 := by
  have key : ∀ (l : List Int) (a : Int), l.Pairwise (· < ·) → (∀ x ∈ l, a ≤ x) → (∀ x ∈ l, x ≤ m) → l ≠ [] → a + l.length ≤ m + 1 := by
    intro l
    induction l with
    | nil => intro a _ _ _ h; exact absurd rfl h
    | cons b l ih =>
      intro a hp hlo hhi _
      by_cases hl : l = []
      · subst hl; have := hlo b (by simp); have := hhi b (by simp); simp; omega
      · have := ih (b + 1) (List.pairwise_cons.1 hp).2 (fun x hx => by have := (List.pairwise_cons.1 hp).1 x hx; omega) (fun x hx => hhi x (by simp [hx])) hl
        have := hlo b (by simp)
        simp; omega
  obtain ⟨r, hr⟩ := h.head
  have := key l 0 h.asc (h.nonneg) h.le (by rw [hr]; simp)
  omega
theorem Good.rowLen {p : Pat} (h : Good p) {q : Nat} (hq : q < p.len.length) : (rowOf p.ck q).length ≤ 65 := by
  have := (h.row q hq).length_le
  have := h.hi q hq
  omega
theorem Pat.mark_same {p : Pat} {q : Nat} (h : nth p.len q ∈ rowOf p.ck q) : p.mark q = p := by simp [Pat.mark, h]
theorem Pat.mark_new {p : Pat} {q : Nat} (h : ¬ nth p.len q ∈ rowOf p.ck q) : p.mark q = { p with ck := p.ck.set q (rowOf p.ck q ++ [nth p.len q]) } := by simp [Pat.mark, h]
/-- a pattern with one more event -/
def RetWith (w : World) (p' : Pat) (A2 : Option Addr) (c2 n1 n2 n3 : Nat) (e : Ending) (w' : World) : Prop := ∃ L1 k1 L3 k3, e = .returned (.agg #[.slice L1 n1 k1, .slice A2 n2 c2, .slice L3 n3 k3]) ∧ w'.ownsRow w.heap.size 3 1 (.slice L1 n1 k1) n1 (ints p'.len) ∧ w'.ownsRow w.heap.size 62 4 (.slice L3 n3 k3) n3 (p'.arcs.flatMap arcCells) ∧ Ext w w'
end Go.Proofs.Ytkaofbjppibdkaa

/- From a walk of a law (it returns true, old memory is as it was) to the given statement; how arguments that are slices of numbers read. No condition. -/
namespace Go.Proofs.Ytkaofbjppibdkaa
open Go.ChangeShapes Go.WideShapes Go.ChangeAt Go.RowKit
set_option linter.unusedVariables false

section
variable {H : Type} {enc : TypeId × Value → H} {P : Program}

theorem trodAll_below (hlaid : laidOutB P = true) {W W' : World} (hb : Below W.heap.size W W') : ∀ {ts : List TypeId} {vs : List Value} {ds : List (DataW H)} {ps : List MemPlace},
    (∀ t ∈ ts, P.readableRec t = true ∧ t < P.types.size) → DataW.TrodAll enc P W 0 (fun _ => true) true ts vs ds ps → (∀ x ∈ ps, x.block < W.heap.size) →
    DataW.TrodAll enc P W' 0 (fun b => decide (b < W.heap.size)) true ts vs ds ps
  | [], vs, ds, ps, _, h, _ => by
    obtain ⟨rfl, rfl, rfl⟩ := trodAll_nil h
    exact trodAll_mk0
  | t :: ts, vs, ds, ps, hr, h, hlt => by
    obtain ⟨v0, vs0, d0, ds0, p0, q0, rfl, rfl, rfl, h0, r0⟩ := trodAll_cons h
    have ht := hr t (by simp)
    exact trodAll_cons_mk (Below.trod hlaid ht.1 ht.2 h0 hb (fun x hx => hlt x (by simp [hx]))) (trodAll_below hlaid hb (fun t h => hr t (by simp [h])) r0 (fun x hx => hlt x (by simp [hx])))

theorem law_post (hlaid : laidOutB P = true) {f : Func} {s : ChangeSpec} {tb : TypeId} {W W' : World} {args : Array Value} {ds gs : List (DataW H)} {before : List MemPlace}
    (hW : DataW.Whole enc P f.params.toList s.vars false W args.toList ds gs before) (hvs : s.vars = []) (hrt : f.resultTypes = #[tb]) (hub : P.underlying tb = some .bool)
    (hread : ∀ t ∈ f.params.toList, P.readableRec t = true ∧ t < P.types.size)
    (hres : (s.fn H (ds ++ [])).results = [.lit (.bool true)]) (hargs : (s.fn H (ds ++ [])).args = ds) (hvars : (s.fn H (ds ++ [])).vars = []) (hb : Below W.heap.size W W') :
    s.post enc P f false true false false W args (.bool true) W' := by
  have hlt : ∀ p ∈ before, p.block < W.heap.size := fun p hp => hW.lt p hp
  have hW' := hW
  obtain ⟨p, q, hA, hV, rfl, hfz, hnd⟩ := hW
  rw [hvs] at hV
  obtain ⟨rfl, rfl⟩ := trodVars_none hV
  refine ⟨ds, [], p ++ [], [], p, [], hW', ?_, ?_, ?_, World.keptBut_mono (fun x hx => ⟨hx, ?_⟩) (hb.frame (· ∈ p ++ [])), fun h => by cases h⟩
  · rw [hres, hrt]; exact trodAll_cons_mk (shut_bool hub _) trodAll_mk0
  · rw [hargs]; exact trodAll_below hlaid hb hread hA (fun x hx => hlt x (by simp [hx]))
  · rw [hvars, hvs]; rfl
  · simpa using hx

theorem law_lifted {C : Checked} {os : Os} {fid : FuncId} {fn : Func} {s : ChangeSpec} {tb : TypeId} (own : ownKnob C.prog.godebug = none) (started : os.Started) (hin : C.prog.inits.idxOf? fid = none) (hfn : C.prog.funcs[fid]? = some fn)
    (hwit : ∃ (w : World) (tape : Nat → Question → Nat) (i : Input), w.os = os ∧ World.Shaped C.prog (w.forCall tape i) ∧ i.vars = [] ∧ Input.okWide C.prog (w.forCall tape i) Reach.any w.heap.size fid i ∧ ChangeSpec.pre6 enc C.prog fn s [] false (w.forCall tape i).memory i.args ∧
      ({} : Assume).holds C.prog (lone (Frame.enter C.prog fid i.args CallKind.normal) [] (w.forCall tape i)))
    (hlaid : laidOutB C.prog = true) (hvs : s.vars = []) (hrt : fn.resultTypes = #[tb]) (hub : C.prog.underlying tb = some .bool) (hread : ∀ t ∈ fn.params.toList, C.prog.readableRec t = true ∧ t < C.prog.types.size)
    (hspec : ∀ ds : List (DataW H), ds.length = fn.params.size → (s.fn H (ds ++ [])).results = [.lit (.bool true)] ∧ (s.fn H (ds ++ [])).args = ds ∧ (s.fn H (ds ++ [])).vars = [])
    (hwalk : ∀ (W : World) (base : Nat) (args : Array Value) (ds : List (DataW H)) (p : List MemPlace), (∀ (j : Nat) t v, fn.params[j]? = some t → args[j]? = some v → Value.okWide C.prog W .any base t v) →
      DataW.TrodAll enc C.prog W 0 (fun _ => true) true fn.params.toList args.toList ds p → Calls C.prog fid args W fun e W' => e = .returned (.bool true) ∧ Ext W W') :
    ReturnsInHanded {} C os fid .any (s.pre6 enc C.prog fn [] false) (s.post enc C.prog fn false true false false) := by
  refine returnsInHanded_of_change own started hin hfn hwit ?_
  intro W base args ds gs before hval hW _ _
  have hW' := hW
  obtain ⟨p, q, hA, hV, rfl, hfz, hnd⟩ := hW
  have hlen : ds.length = fn.params.size := by have := (trodAll_length hA).2; simpa using this
  obtain ⟨h1, h2, h3⟩ := hspec ds hlen
  refine (hwalk W base args ds p hval hA).mono fun e W' h => ?_
  obtain ⟨rfl, hb⟩ := h
  rw [hvs] at hV
  obtain ⟨rfl, rfl⟩ := trodVars_none hV
  exact ⟨_, rfl, law_post hlaid hW' hvs hrt hub hread h1 h2 h3 hb⟩

/-- a value that is a slice of numbers of one kind -/
theorem open_nums_cs {W : World} {t e : TypeId} {k : IntKind} {v : Value} {fuel : Nat} {x : DataW H × List MemPlace} (ht : P.underlying t = some (.slice e)) (he : P.underlying e = some (.int k)) (hc : P.cellsOf e = 1)
    (hf : DataW.trod enc P W 0 (fun _ => true) true fuel t [v] = some x) :
    ∃ A c, ∃ xs : List Int, v = .slice A xs.length c ∧ RV (fun b => b < W.heap.size) W A (xs.map (Value.int k)) ∧ xs.length ≤ c ∧ c ≤ 9223372036854775807 ∧ ∀ x ∈ xs, (Lit.int k x).wf = true := by
  rcases open_ints ht he hc hf with ⟨h1, _⟩ | ⟨a, len, cap, zs, h1, _, h3, h4, h5, _, h7, h8⟩
  · injection h1 with h1
    exact ⟨none, 0, [], h1, RV.nil_ _ _ _, by simp, by omega, by simp⟩
  · injection h1 with h1
    rw [if_pos rfl] at h5
    have hl : (zs.take len).length = len := by rw [List.length_take]; omega
    refine ⟨some a, cap, zs.take len, by rw [hl]; exact h1, ?_, by omega, by unfold maxLen at h4; omega, fun x hx => h8 x (List.mem_of_mem_take hx)⟩
    intro j u hu
    rw [List.getElem?_map] at hu
    cases hz : (zs.take len)[j]? with
    | none => rw [hz] at hu; cases hu
    | some x =>
      rw [hz] at hu
      injection hu with hu
      obtain ⟨hj, hx⟩ := List.getElem?_eq_some_iff.1 hz
      have hj' : j < zs.length := by rw [hl] at hj; omega
      have hcell := h7 j hj'
      have hget : zs.getD j 0 = x := by
        rw [← hx, List.getElem_take, List.getD_eq_getElem?_getD, List.getElem?_eq_getElem hj']; rfl
      rw [hget] at hcell
      have h0 := spot_of_cell (h7 0 (by omega))
      obtain ⟨b, o, sp⟩ := a
      have hsp : sp = none := by
        have := congrArg Addr.spot h0
        simpa [Addr.add] using this
      subst hsp
      rw [add_mk] at hcell
      exact ⟨b, o, rfl, lt_of_cell hcell, by rw [hcell, ← hu]⟩
/-- an argument that is a slice of numbers of one kind -/
theorem open_nums {W : World} {t e : TypeId} {k : IntKind} {v : Value} {d : DataW H} {p : List MemPlace} (ht : P.underlying t = some (.slice e)) (he : P.underlying e = some (.int k)) (hc : P.cellsOf e = 1)
    {r : Reach} {b0 : Nat} (hok : Value.okWide P W r b0 t v) (h : DataW.Trod enc P W 0 (fun _ => true) true t v d p) :
    ∃ A c, ∃ xs : List Int, v = .slice A xs.length c ∧ RV (fun b => b < W.heap.size) W A (xs.map (Value.int k)) ∧ xs.length ≤ c ∧ c ≤ 9223372036854775807 ∧ ∀ x ∈ xs, (Lit.int k x).wf = true := by
  have hv : v.cells = #[v] := by obtain ⟨a, l, c, rfl⟩ := okWide_slice ht hok; rfl
  obtain ⟨fuel, hf⟩ := h
  rw [hv] at hf
  exact open_nums_cs ht he hc hf
end
theorem read_of {P : Program} {ts : List TypeId} (h : ts.all (fun t => P.readableRec t && decide (t < P.types.size)) = true) : ∀ t ∈ ts, P.readableRec t = true ∧ t < P.types.size := fun t ht => by
  have h1 := List.all_eq_true.1 h t ht
  rw [Bool.and_eq_true] at h1
  exact ⟨h1.1, of_decide_eq_true h1.2⟩
theorem i64_bd {n : Int} (h : (Lit.int .i64 n).wf = true) : -9223372036854775808 ≤ n ∧ n ≤ 9223372036854775807 := by
  simpa [Lit.wf, IntKind.min, IntKind.max, IntKind.signed, IntKind.bits] using h
theorem u8_bd {n : Int} (h : (Lit.int .u8 n).wf = true) : 0 ≤ n ∧ n ≤ 255 := by
  simpa [Lit.wf, IntKind.min, IntKind.max, IntKind.signed, IntKind.bits] using h
end Go.Proofs.Ytkaofbjppibdkaa

/- append onto a slice without spare room: a new row. No condition. -/
namespace Go.Proofs.Ytkaofbjppibdkaa
open Go.RowKit
set_option linter.unusedVariables false
set_option linter.unusedSectionVars false

theorem run_app_full {P : Program} {t e : TypeId} {size bytes : Nat} (hT : ElemTy P t e size bytes) (w : World) (ty : TypeId) {S S' : Nat → Prop} (A : Option Addr) (n : Nat) (xs : List Value) (hlx : xs.length = n * size) (hx : RV S w A xs)
    (a : Addr) (m c : Nat) (news : List Value) (hl : news.length = m * size) (hr : RV S' w (some a) news) (hm : 0 < m) (hb : (n + m) * bytes ≤ 140737488355328) (hA : A = none → n = 0) :
    ∃ L c' w', (Builtin.append_ #[t, t] ty #[.slice A n n, .slice (some a) m c]).run P w = .ok (.slice L (n + m) c') w' ∧ w'.ownsRow w.heap.size e size (.slice L (n + m) c') (n + m) (xs ++ news) ∧ Ext w w' := by
  obtain ⟨i, z, hi, hz, hs, hby, hzs⟩ := hT.hi
  have h63 : n + m ≤ maxLen := by
    have : n + m ≤ (n + m) * bytes := Nat.le_mul_of_pos_right _ hT.hby
    unfold maxLen; omega
  have hsmall : n + m ≤ 9223372036854775807 := by simp only [maxLen] at h63; omega
  have hc : ∀ {B : Addr} {S : Nat → Prop} {us : List Value}, RV S w (some B) us → ∀ j u, us[j]? = some u → w.cell? (B.add j) = some u := fun h j u hu => by
    obtain ⟨b, o, e, _, hc⟩ := h j u hu
    injection e with e; subst e; rw [add_mk]; exact hc
  subst hs
  subst hby
  have hlen : (xs ++ news).length = (n + m) * i.size := by rw [List.length_append, hlx, hl, Nat.add_mul]
  have grown : ∀ (old : Nat), old < n + m →
      (w.drew.alloc (.cells (xs.toArray ++ news.toArray ++ Builtin.zeroCells z.cells (grownCap w (n + m) old e - (n + m))) e)).ownsRow w.heap.size e i.size
        (.slice (some ⟨w.heap.size, 0, none⟩) (n + m) (grownCap w (n + m) old e)) (n + m) (xs ++ news) ∧
      Ext w (w.drew.alloc (.cells (xs.toArray ++ news.toArray ++ Builtin.zeroCells z.cells (grownCap w (n + m) old e - (n + m))) e)) := by
    intro old ho
    have hge := grownCap_ge w (n + m) old e
    have hcm : grownCap w (n + m) old e ≤ maxLen := grownCap_le_maxLen w (n + m) old e h63
    refine ⟨⟨hlen, .inr ⟨w.heap.size, _, _, rfl, Nat.le_refl _, heap_new w.drew _, hge, hcm, ?_, ?_⟩⟩, (Ext.refl' w).drew'.alloc' _⟩
    · simp only [Array.size_append, List.size_toArray, size_zeroCells, hzs, hlx, hl, ← Nat.add_mul]
      congr 1
      omega
    · simp only [Array.toList_append, List.append_assoc]
      rw [← List.append_assoc, ← hlen]
      exact List.take_left
  cases A with
  | none =>
    have h0 := hA rfl
    subst h0
    have hx0 : xs = [] := List.eq_nil_of_length_eq_zero (by simpa using hlx)
    subst hx0
    have hr' := run_append_nil (P := P) w t ty e i z hT.ht hi hz a m c news hl (hc hr) hm (by omega) (by simp only [Nat.zero_add] at hb; omega)
    have hgr := grown 0 (by omega)
    simp only [Nat.zero_add, List.nil_append, Array.empty_append] at hgr ⊢
    exact ⟨_, _, _, hr', hgr.1, hgr.2⟩
  | some b =>
    have hr' := run_append_grow (P := P) w t ty e i z hT.ht hi hz b n n xs hlx (hc hx) a m c news hl (hc hr) (by omega) (by omega) (growslice_fits (by omega) hb)
    have hgr := grown n (by omega)
    exact ⟨_, _, _, hr', hgr.1, hgr.2⟩
section
variable {P : Program} {ops : Array Oper} {Q : Exit → Act → World → Prop} {a : Act} {w w0 : World} {M : Nat → Prop} {cs ds : List (Chunk w0 M)} {f : Chunk w0 M → List (Chunk w0 M)} {rest : List Oper} {d : Option Tmp} {tt ty t e : TypeId} {pos : String} {af : Array Edge} {gd : Option (Nat × Bool)} {x y : Operand}
/-- append of what was just laid out onto a full slice -/
theorem st_appF {sz bytes n m c g : Nat} {A : Option Addr} [hT : ElemC P t e sz bytes] (hS : St w0 M cs w) (hw : Region.wanted ⟨d, .call { callee := .builtin .append, args := #[x, y], argTypes := #[t, t] }, tt, pos, af, gd⟩ (yielded ops a.tmps) = true)
    (hx' : oval a x = some (.slice A n n)) (hy' : oval a y = some (.slice (some ⟨g, 0, none⟩) m c)) {news xs : List Value} {t' : TypeId} {S : Nat → Prop} [hd : DropB g cs news t' ds] (hr : RV S w A xs) (hlx : xs.length = n * sz) (hl : news.length = m * sz) (hm : 0 < m) (hA : A = none → n = 0) (hb : (n + m) * bytes ≤ 140737488355328)
    (k : ∀ L c' w', n + m ≤ c' → c' ≤ 9223372036854775807 → St w0 M (row (.slice L (n + m) c') e sz (n + m) (xs ++ news) :: ds) w' → wpList P ops Q rest (a.put d (.slice L (n + m) c')) w') :
    wpList P ops Q (⟨d, .call { callee := .builtin .append, args := #[x, y], argTypes := #[t, t] }, tt, pos, af, gd⟩ :: rest) a w := by
  obtain ⟨L, c', w', hrun, ho, hE⟩ := run_app_full hT.h w tt A n xs hlx hr ⟨g, 0, none⟩ m c news hl (RV.ofBlk (hS.all _ hd.mem : w.heap[g]? = _)) hm hb hA
  obtain ⟨L', c'', hv, hc1, hc2⟩ := own_form ho
  injection hv with _ _ hv
  subst hv
  refine st_run hw (v := .slice L (n + m) c') (w' := w') ?_ (k L c' w' hc1 hc2 ((hS.sub hd.sub).addRow ho hE))
  simp only [execOp, resolve, invoke, builtin, Sem.run_bind, Sem.run_pure, Result.andThen_ok, List.map_toArray, List.map_cons, List.map_nil, oval_eval hx', oval_eval hy', hrun]
/-- one number onto a full slice of numbers -/
theorem st_appFI {bytes n c g : Nat} {A : Option Addr} {xs : List Int} {z : Int} [hT : ElemC P t e 1 bytes] (hS : St w0 M cs w) (hw : Region.wanted ⟨d, .call { callee := .builtin .append, args := #[x, y], argTypes := #[t, t] }, tt, pos, af, gd⟩ (yielded ops a.tmps) = true)
    (hx' : oval a x = some (.slice A n n)) (hy' : oval a y = some (.slice (some ⟨g, 0, none⟩) 1 c)) {t' : TypeId} {S : Nat → Prop} [hd : DropB g cs [.int .i64 z] t' ds] (hr : RI S w A xs) (hlx : xs.length = n) (hA : A = none → n = 0) (hb : (n + 1) * bytes ≤ 140737488355328)
    (k : ∀ L c' w', n + 1 ≤ c' → c' ≤ 9223372036854775807 → St w0 M (irow e L c' (xs ++ [z]) :: ds) w' → wpList P ops Q rest (a.put d (.slice L (xs ++ [z]).length c')) w') :
    wpList P ops Q (⟨d, .call { callee := .builtin .append, args := #[x, y], argTypes := #[t, t] }, tt, pos, af, gd⟩ :: rest) a w := by
  subst hlx
  refine st_appF hS hw hx' hy' hr (by simp) (by simp) (by omega) hA hb ?_
  intro L c' w' h1 h2 h3
  have := k L c' w' h1 h2
  rw [List.length_append] at this
  rw [row_snoc] at h3
  exact this h3
theorem RA.rv {S : Nat → Prop} {A : Option Addr} {az : List Arc} (h : RA S w A az) : RV S w A (az.flatMap arcCells) := by
  obtain ⟨vs, h1, h2⟩ := h
  rw [← reps_arcs_eq h2]; exact h1
theorem flat_length : ∀ (az : List Arc), (az.flatMap arcCells).length = az.length * 4
  | [] => rfl
  | a :: az => by
    rw [List.flatMap_cons, List.length_append, flat_length az, List.length_cons]
    simp only [arcCells, List.length_cons, List.length_nil]; omega
/-- one arc onto a full slice of arcs -/
theorem st_appFA {bytes n c g : Nat} {A : Option Addr} {az : List Arc} {us : List Value} (z : Arc) [hT : ElemC P t e 4 bytes] (hS : St w0 M cs w) (hw : Region.wanted ⟨d, .call { callee := .builtin .append, args := #[x, y], argTypes := #[t, t] }, tt, pos, af, gd⟩ (yielded ops a.tmps) = true)
    (hx' : oval a x = some (.slice A n n)) (hy' : oval a y = some (.slice (some ⟨g, 0, none⟩) 1 c)) {t' : TypeId} {S : Nat → Prop} [hd : DropB g cs us t' ds] (hr : RA S w A az) (hlx : az.length = n) (hu : us = arcCells z) (hA : A = none → n = 0) (hb : (n + 1) * bytes ≤ 140737488355328)
    (k : ∀ L c' w', n + 1 ≤ c' → c' ≤ 9223372036854775807 → St w0 M (row (.slice L (n + 1) c') e 4 (n + 1) ((az ++ [z]).flatMap arcCells) :: ds) w' → wpList P ops Q rest (a.put d (.slice L (n + 1) c')) w') :
    wpList P ops Q (⟨d, .call { callee := .builtin .append, args := #[x, y], argTypes := #[t, t] }, tt, pos, af, gd⟩ :: rest) a w := by
  subst hlx hu
  refine st_appF hS hw hx' hy' hr.rv (flat_length az) (by simp [arcCells]) (by omega) hA hb ?_
  rw [List.flatMap_append, List.flatMap_cons, List.flatMap_nil, List.append_nil] at k
  exact k
end
theorem RV.none_len {S : Nat → Prop} {w : World} {vs : List Value} (h : RV S w none vs) : vs = [] := by
  cases vs with
  | nil => rfl
  | cons u r => obtain ⟨b, o, e, _⟩ := h 0 u rfl; cases e
set_option maxHeartbeats 800000 in
theorem clipI_any (A : Option Addr) (n c : Nat) (w0 : World) (hc : n ≤ c) (hc' : c ≤ 9223372036854775807) (hA : A = none → n = 0) :
    Calls Try.prog 56 #[.slice A n c] w0 fun e w' => e = .returned (.slice A n n) ∧ Ext w0 w' := by
  have hS := St.start w0 NoM
  cases A with
  | none =>
    have h0 := hA rfl
    subst h0
    go_enter Try.func56, Try.ntmps56
    go_wp2_with (fail)
    go_ret
    exact ⟨rfl, hS.toExt⟩
  | some a =>
    clear hA
    go_enter Try.func56, Try.ntmps56
    go_wp2_with (fail)
    go_ret
    exact ⟨by simp, hS.toExt⟩
end Go.Proofs.Ytkaofbjppibdkaa

