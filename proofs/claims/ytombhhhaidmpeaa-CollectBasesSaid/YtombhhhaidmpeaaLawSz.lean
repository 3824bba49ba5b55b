/- From a walk of a law to the given statement, where the walk needs the form's own bound on the size of a slice. No condition. -/
import Derived.Test.YtombhhhaidmpeaaGe
import Derived.SizedLaws
namespace Go.Proofs.Ytombhhhaidmpeaa
open Go.ChangeShapes Go.WideShapes Go.ChangeAt Go.RowKit
set_option linter.unusedVariables false
section
variable {H : Type} {enc : TypeId × Value → H} {P : Program}
theorem law_lifted_sz {C : Checked} {os : Os} {fid : FuncId} {fn : Func} {s : ChangeSpec} {tb : TypeId} (own : ownKnob C.prog.godebug = none) (started : os.Started) (hin : C.prog.inits.idxOf? fid = none) (hfn : C.prog.funcs[fid]? = some fn)
    (hwit : ∃ (w : World) (tape : Nat → Question → Nat) (i : Input), w.os = os ∧ World.Shaped C.prog (w.forCall tape i) ∧ i.vars = [] ∧ Input.okWide C.prog (w.forCall tape i) Reach.any w.heap.size fid i ∧ ChangeSpec.pre6 enc C.prog fn s [] false (w.forCall tape i).memory i.args ∧
      ({} : Assume).holds C.prog (lone (Frame.enter C.prog fid i.args CallKind.normal) [] (w.forCall tape i)))
    (hlaid : laidOutB C.prog = true) (hvs : s.vars = []) (hrt : fn.resultTypes = #[tb]) (hub : C.prog.underlying tb = some .bool) (hread : ∀ t ∈ fn.params.toList, C.prog.readableRec t = true ∧ t < C.prog.types.size)
    (hspec : ∀ ds : List (DataW H), ds.length = fn.params.size → (s.fn H (ds ++ [])).results = [.lit (.bool true)] ∧ (s.fn H (ds ++ [])).args = ds ∧ (s.fn H (ds ++ [])).vars = [])
    (hwalk : ∀ (W : World) (base : Nat) (args : Array Value) (ds : List (DataW H)) (p : List MemPlace), (∀ (j : Nat) t v, fn.params[j]? = some t → args[j]? = some v → Value.okWide C.prog W .any base t v) →
      DataW.TrodAll enc C.prog W 0 (fun _ => true) true fn.params.toList args.toList ds p → (∃ vt : List TypeId, (DataW.weightsEach C.prog (fn.params.toList ++ vt) ds).all (· ≤ reachBytes) = true) → Calls C.prog fid args W fun e W' => e = .returned (.bool true) ∧ Ext W W') :
    ReturnsInHanded {} C os fid .any (s.pre6 enc C.prog fn [] false) (s.post enc C.prog fn false true false false) := by
  refine returnsInHanded_of_change_sized own started hin hfn hwit ?_
  intro W base args ds gs before hval hW _ hsz _
  have hW' := hW
  obtain ⟨p, q, hA, hV, rfl, hfz, hnd⟩ := hW
  have hlen : ds.length = fn.params.size := by have := (trodAll_length hA).2; simpa using this
  obtain ⟨h1, h2, h3⟩ := hspec ds hlen
  rw [hvs] at hV
  obtain ⟨rfl, rfl⟩ := trodVars_none hV
  rw [List.append_nil] at hsz
  refine (hwalk W base args ds p hval hA ⟨_, hsz⟩).mono fun e W' h => ?_
  obtain ⟨rfl, hb⟩ := h
  exact ⟨_, rfl, law_post hlaid hW' hvs hrt hub hread h1 h2 h3 hb⟩
/-- an argument that is a slice of numbers of one kind: its length is bounded by the bytes that a slice may have -/
theorem open_nums_len {W : World} {t e : TypeId} {k : IntKind} {A : Option Addr} {n c : Nat} {d : DataW H} {p : List MemPlace} (ht : P.underlying t = some (.slice e)) (he : P.underlying e = some (.int k)) (hc : P.cellsOf e = 1)
    (h : DataW.Trod enc P W 0 (fun _ => true) true t (.slice A n c) d p) {ts : List TypeId} {ds : List (DataW H)} (hz : (DataW.weightsEach P ts ds).all (· ≤ reachBytes) = true) {j : Nat} (hj : ts[j]? = some t) (hd : ds[j]? = some d) : n * P.bytesOf e ≤ reachBytes := by
  obtain ⟨fuel, hf⟩ := h
  rcases open_ints ht he hc hf with ⟨h1, _⟩ | ⟨a, len, cap, zs, h1, _, h3, h4, h5, h6, _⟩
  · have : n = 0 := by simpa [Value.cells] using congrArg (fun l => match l with | [Value.slice _ n _] => n | _ => 0) h1
    subst this; simp
  · have hn : n = len := by simpa [Value.cells] using congrArg (fun l => match l with | [Value.slice _ n _] => n | _ => 0) h1
    subst hn
    injection h6 with h6 _
    subst h6
    have := sized_slice hz hj hd ht
    rw [if_pos rfl] at h5
    refine Nat.le_trans (Nat.mul_le_mul_right _ ?_) this
    simp [lits]; omega
end
end Go.Proofs.Ytombhhhaidmpeaa
