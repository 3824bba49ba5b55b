/- From a walk of a law (it returns true, old memory is as it was) to the given statement; how arguments that are slices of numbers read. No condition. -/
import Derived.ProofKit
import Derived.OpenShut
import Derived.Carry
import Derived.ChangeCalls
import Derived.Test.YtmjmdncdmmcmaaaMem
namespace Go.Proofs.Ytmjmdncdmmcmaaa
open Go.ChangeShapes Go.WideShapes Go.ChangeAt Go.RowKit
set_option linter.unusedVariables false

section
variable {H : Type} {enc : TypeId × Value → H} {P : Program}

theorem trodAll_below (hlaid : laidOutB P = true) {W W' : World} (hb : Below W.heap.size W W') : ∀ {ts : List TypeId} {vs : List Value} {ds : List (DataW H)} {ps : List MemPlace},
    (∀ t ∈ ts, P.readableRec t = true ∧ t < P.types.size) → DataW.TrodAll enc P W 0 (fun _ => true) true ts vs ds ps → (∀ x ∈ ps, x.block < W.heap.size) →
    DataW.TrodAll enc P W' 0 (fun b => decide (b < W.heap.size)) true ts vs ds ps
  | [], vs, ds, ps, _, h, _ => by
    obtain ⟨rfl, rfl, rfl⟩ := trodAll_nil h
    exact trodAll_mk0
  | t :: ts, vs, ds, ps, hr, h, hlt => by
    obtain ⟨v0, vs0, d0, ds0, p0, q0, rfl, rfl, rfl, h0, r0⟩ := trodAll_cons h
    have ht := hr t (by simp)
    exact trodAll_cons_mk (Below.trod hlaid ht.1 ht.2 h0 hb (fun x hx => hlt x (by simp [hx]))) (trodAll_below hlaid hb (fun t h => hr t (by simp [h])) r0 (fun x hx => hlt x (by simp [hx])))

theorem law_post (hlaid : laidOutB P = true) {f : Func} {s : ChangeSpec} {tb : TypeId} {W W' : World} {args : Array Value} {ds gs : List (DataW H)} {before : List MemPlace}
    (hW : DataW.Whole enc P f.params.toList s.vars false W args.toList ds gs before) (hvs : s.vars = []) (hrt : f.resultTypes = #[tb]) (hub : P.underlying tb = some .bool)
    (hread : ∀ t ∈ f.params.toList, P.readableRec t = true ∧ t < P.types.size)
    (hres : (s.fn H (ds ++ [])).results = [.lit (.bool true)]) (hargs : (s.fn H (ds ++ [])).args = ds) (hvars : (s.fn H (ds ++ [])).vars = []) (hb : Below W.heap.size W W') :
    s.post enc P f false true false false W args (.bool true) W' := by
  have hlt : ∀ p ∈ before, p.block < W.heap.size := fun p hp => hW.lt p hp
  have hW' := hW
  obtain ⟨p, q, hA, hV, rfl, hfz, hnd⟩ := hW
  rw [hvs] at hV
  obtain ⟨rfl, rfl⟩ := trodVars_none hV
  refine ⟨ds, [], p ++ [], [], p, [], hW', ?_, ?_, ?_, World.keptBut_mono (fun x hx => ⟨hx, ?_⟩) (hb.frame (· ∈ p ++ [])), fun h => by cases h⟩
  · rw [hres, hrt]; exact trodAll_cons_mk (shut_bool hub _) trodAll_mk0
  · rw [hargs]; exact trodAll_below hlaid hb hread hA (fun x hx => hlt x (by simp [hx]))
  · rw [hvars, hvs]; rfl
  · simpa using hx

theorem law_lifted {C : Checked} {os : Os} {fid : FuncId} {fn : Func} {s : ChangeSpec} {tb : TypeId} (own : ownKnob C.prog.godebug = none) (started : os.Started) (hin : C.prog.inits.idxOf? fid = none) (hfn : C.prog.funcs[fid]? = some fn)
    (hwit : ∃ (w : World) (tape : Nat → Question → Nat) (i : Input), w.os = os ∧ World.Shaped C.prog (w.forCall tape i) ∧ i.vars = [] ∧ Input.okWide C.prog (w.forCall tape i) Reach.any w.heap.size fid i ∧ ChangeSpec.pre6 enc C.prog fn s [] false (w.forCall tape i).memory i.args ∧
      ({} : Assume).holds C.prog (lone (Frame.enter C.prog fid i.args CallKind.normal) [] (w.forCall tape i)))
    (hlaid : laidOutB C.prog = true) (hvs : s.vars = []) (hrt : fn.resultTypes = #[tb]) (hub : C.prog.underlying tb = some .bool) (hread : ∀ t ∈ fn.params.toList, C.prog.readableRec t = true ∧ t < C.prog.types.size)
    (hspec : ∀ ds : List (DataW H), ds.length = fn.params.size → (s.fn H (ds ++ [])).results = [.lit (.bool true)] ∧ (s.fn H (ds ++ [])).args = ds ∧ (s.fn H (ds ++ [])).vars = [])
    (hwalk : ∀ (W : World) (base : Nat) (args : Array Value) (ds : List (DataW H)) (p : List MemPlace), (∀ (j : Nat) t v, fn.params[j]? = some t → args[j]? = some v → Value.okWide C.prog W .any base t v) →
      DataW.TrodAll enc C.prog W 0 (fun _ => true) true fn.params.toList args.toList ds p → Calls C.prog fid args W fun e W' => e = .returned (.bool true) ∧ Ext W W') :
    ReturnsInHanded {} C os fid .any (s.pre6 enc C.prog fn [] false) (s.post enc C.prog fn false true false false) := by
  refine returnsInHanded_of_change own started hin hfn hwit ?_
  intro W base args ds gs before hval hW _ _
  have hW' := hW
  obtain ⟨p, q, hA, hV, rfl, hfz, hnd⟩ := hW
  have hlen : ds.length = fn.params.size := by have := (trodAll_length hA).2; simpa using this
  obtain ⟨h1, h2, h3⟩ := hspec ds hlen
  refine (hwalk W base args ds p hval hA).mono fun e W' h => ?_
  obtain ⟨rfl, hb⟩ := h
  rw [hvs] at hV
  obtain ⟨rfl, rfl⟩ := trodVars_none hV
  exact ⟨_, rfl, law_post hlaid hW' hvs hrt hub hread h1 h2 h3 hb⟩

/-- a value that is a slice of numbers of one kind -/
theorem open_nums_cs {W : World} {t e : TypeId} {k : IntKind} {v : Value} {fuel : Nat} {x : DataW H × List MemPlace} (ht : P.underlying t = some (.slice e)) (he : P.underlying e = some (.int k)) (hc : P.cellsOf e = 1)
    (hf : DataW.trod enc P W 0 (fun _ => true) true fuel t [v] = some x) :
    ∃ A c, ∃ xs : List Int, v = .slice A xs.length c ∧ RV (fun b => b < W.heap.size) W A (xs.map (Value.int k)) ∧ xs.length ≤ c ∧ c ≤ 9223372036854775807 ∧ ∀ x ∈ xs, (Lit.int k x).wf = true := by
  rcases open_ints ht he hc hf with ⟨h1, _⟩ | ⟨a, len, cap, zs, h1, _, h3, h4, h5, _, h7, h8⟩
  · injection h1 with h1
    exact ⟨none, 0, [], h1, RV.nil_ _ _ _, by simp, by omega, by simp⟩
  · injection h1 with h1
    rw [if_pos rfl] at h5
    have hl : (zs.take len).length = len := by rw [List.length_take]; omega
    refine ⟨some a, cap, zs.take len, by rw [hl]; exact h1, ?_, by omega, by unfold maxLen at h4; omega, fun x hx => h8 x (List.mem_of_mem_take hx)⟩
    intro j u hu
    rw [List.getElem?_map] at hu
    cases hz : (zs.take len)[j]? with
    | none => rw [hz] at hu; cases hu
    | some x =>
      rw [hz] at hu
      injection hu with hu
      obtain ⟨hj, hx⟩ := List.getElem?_eq_some_iff.1 hz
      have hj' : j < zs.length := by rw [hl] at hj; omega
      have hcell := h7 j hj'
      have hget : zs.getD j 0 = x := by
        rw [← hx, List.getElem_take, List.getD_eq_getElem?_getD, List.getElem?_eq_getElem hj']; rfl
      rw [hget] at hcell
      have h0 := spot_of_cell (h7 0 (by omega))
      obtain ⟨b, o, sp⟩ := a
      have hsp : sp = none := by
        have := congrArg Addr.spot h0
        simpa [Addr.add] using this
      subst hsp
      rw [add_mk] at hcell
      exact ⟨b, o, rfl, lt_of_cell hcell, by rw [hcell, ← hu]⟩
/-- an argument that is a slice of numbers of one kind -/
theorem open_nums {W : World} {t e : TypeId} {k : IntKind} {v : Value} {d : DataW H} {p : List MemPlace} (ht : P.underlying t = some (.slice e)) (he : P.underlying e = some (.int k)) (hc : P.cellsOf e = 1)
    {r : Reach} {b0 : Nat} (hok : Value.okWide P W r b0 t v) (h : DataW.Trod enc P W 0 (fun _ => true) true t v d p) :
    ∃ A c, ∃ xs : List Int, v = .slice A xs.length c ∧ RV (fun b => b < W.heap.size) W A (xs.map (Value.int k)) ∧ xs.length ≤ c ∧ c ≤ 9223372036854775807 ∧ ∀ x ∈ xs, (Lit.int k x).wf = true := by
  have hv : v.cells = #[v] := by obtain ⟨a, l, c, rfl⟩ := okWide_slice ht hok; rfl
  obtain ⟨fuel, hf⟩ := h
  rw [hv] at hf
  exact open_nums_cs ht he hc hf
end
theorem read_of {P : Program} {ts : List TypeId} (h : ts.all (fun t => P.readableRec t && decide (t < P.types.size)) = true) : ∀ t ∈ ts, P.readableRec t = true ∧ t < P.types.size := fun t ht => by
  have h1 := List.all_eq_true.1 h t ht
  rw [Bool.and_eq_true] at h1
  exact ⟨h1.1, of_decide_eq_true h1.2⟩
theorem i64_bd {n : Int} (h : (Lit.int .i64 n).wf = true) : -9223372036854775808 ≤ n ∧ n ≤ 9223372036854775807 := by
  simpa [Lit.wf, IntKind.min, IntKind.max, IntKind.signed, IntKind.bits] using h
theorem u8_bd {n : Int} (h : (Lit.int .u8 n).wf = true) : 0 ≤ n ∧ n ≤ 255 := by
  simpa [Lit.wf, IntKind.min, IntKind.max, IntKind.signed, IntKind.bits] using h
end Go.Proofs.Ytmjmdncdmmcmaaa
