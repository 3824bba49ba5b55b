/- An argument that is a list of lists of numbers: how it reads, and how long its parts are. No condition. -/
import Derived.Test.YtombhhhaidmpeaaLawSz
import Derived.Test.YtombhhhaidmpeaaGa
import Derived.Deep.Matrix
namespace Go.Proofs.Ytombhhhaidmpeaa
open Go.ChangeShapes Go.WideShapes Go.ChangeAt Go.RowKit
set_option linter.unusedVariables false
section
variable {H : Type} {enc : TypeId × Value → H} {P : Program}
theorem weightsAll_mem {e : TypeId} {d : DataW H} {n : Nat} : ∀ {ds : List (DataW H)}, d ∈ ds → n ∈ d.weights P e → n ∈ DataW.weightsAll P e ds
  | [], h, _ => by simp at h
  | x :: r, h, hn => by
    simp only [DataW.weightsAll, List.mem_append]
    rcases List.mem_cons.1 h with rfl | h
    · exact .inl hn
    · exact .inr (weightsAll_mem h hn)
theorem open_rows {W : World} {t e q : TypeId} {v : Value} {d : DataW H} {p : List MemPlace} (ht : P.underlying t = some (.slice e)) (he : P.underlying e = some (.slice q)) (hq : P.underlying q = some (.int .i64)) (ce : P.cellsOf e = 1) (cq : P.cellsOf q = 1) (bq : P.bytesOf q = 8) (be : P.bytesOf e = 24)
    {r : Reach} {b0 : Nat} (hok : Value.okWide P W r b0 t v) (h : DataW.Trod enc P W 0 (fun _ => true) true t v d p) {ts : List TypeId} {ds : List (DataW H)} (hz : (DataW.weightsEach P ts ds).all (· ≤ reachBytes) = true) {j : Nat} (hj : ts[j]? = some t) (hd : ds[j]? = some d) :
    ∃ A c, ∃ ls : List (List Int), v = .slice A ls.length c ∧ RR (fun b => b < W.heap.size) W A ls ∧ ls.length ≤ c ∧ c ≤ 9223372036854775807 ∧ ls.length ≤ 140737488355328 ∧ ∀ l ∈ ls, l.length ≤ 140737488355328 := by
  have hv : v.cells = #[v] := by obtain ⟨a, l, c, rfl⟩ := okWide_slice ht hok; rfl
  obtain ⟨fuel, hf⟩ := h
  rw [hv] at hf
  rcases Deep.open_int_rows ht he hq ce cq hf with ⟨h1, _⟩ | ⟨a, len, cap, A, L, C, Z, h1, _, h3, h4, h5, h6⟩
  · injection h1 with h1
    exact ⟨none, 0, [], h1, ⟨[], RV.nil_ _ _ _, rfl⟩, by simp, by omega, by simp, by simp⟩
  · injection h1 with h1
    injection h5 with h5 _
    have hsp : ∀ r, r < cap → a.spot = none := fun r hr => by
      have := congrArg Addr.spot (spot_of_cell (h6 0 (by omega)).1)
      simpa [Addr.add] using this
    have hw : ∀ r, r < len → L r ≤ 140737488355328 := fun r hr => by
      cases hA : A r with
      | none =>
        have h7 := (h6 r (by omega)).2.2.2.2.2.1 hA
        have := (h6 r (by omega)).2.1
        omega
      | some ar =>
        have hm : Deep.intRow (H := H) .i64 (A r) (L r) (Z r) ∈ (List.range len).map fun r => Deep.intRow (H := H) .i64 (A r) (L r) (Z r) := List.mem_map.2 ⟨r, List.mem_range.2 hr, rfl⟩
        have hn : ((Z r).take (L r)).length * 8 + ((Z r).drop (L r)).length * 8 ∈ (Deep.intRow (H := H) .i64 (A r) (L r) (Z r)).weights P e := by
          rw [hA, Deep.intRow, DataW.weights, he]
          simp only [List.mem_cons, bq]
          left
          simp [lits, Nat.add_mul]
        have h8 := weightsAll_mem (P := P) (e := e) hm hn
        have h9 : ((Z r).take (L r)).length * 8 + ((Z r).drop (L r)).length * 8 ∈ d.weights P t := by
          rw [h5, DataW.weights, ht]
          exact List.mem_cons_of_mem _ (List.mem_append_left _ h8)
        have h10 := DataW.weights_mem_each hj hd _ h9
        have h11 := List.all_eq_true.1 hz _ h10
        have h12 : ((Z r).take (L r)).length * 8 + ((Z r).drop (L r)).length * 8 ≤ reachBytes := by simpa using h11
        have := reachBytes_lt
        have h13 := (h6 r (by omega)).2.2.2.1
        have h14 := (h6 r (by omega)).2.1
        rw [List.length_take, List.length_drop] at h12
        omega
    have hlen : len ≤ 140737488355328 := by
      rw [h5] at hd
      have := sized_slice hz hj hd ht
      have := reachBytes_lt
      rw [be, List.length_map, List.length_range] at *
      omega
    have hZ : ∀ r, r < len → ((Z r).take (L r)).length = L r := fun r hr => by
      have h13 := (h6 r (by omega)).2.2.2.1
      have h14 := (h6 r (by omega)).2.1
      rw [List.length_take]; omega
    refine ⟨some a, cap, (List.range len).map fun r => (Z r).take (L r), by rw [List.length_map, List.length_range]; exact h1, ?_, by simpa using h3, by unfold maxLen at h4; omega, by simpa using hlen, fun l hl => ?_⟩
    · obtain ⟨b, o, sp⟩ := a
      refine ⟨(List.range len).map fun r => .slice (A r) (L r) (C r), ?_, ?_⟩
      · intro j u hu
        rw [List.getElem?_map] at hu
        cases hr : (List.range len)[j]? with
        | none => rw [hr] at hu; cases hu
        | some r =>
          rw [hr] at hu
          injection hu with hu
          have hr2 : r = j ∧ j < len := by
            obtain ⟨h, e⟩ := List.getElem?_eq_some_iff.1 hr
            simp at h e
            exact ⟨e.symm, h⟩
          obtain ⟨rfl, hrl⟩ := hr2
          have hc := (h6 r (by omega)).1
          have hs := hsp r (by omega)
          simp only at hs
          subst hs
          rw [add_mk] at hc
          exact ⟨b, o, rfl, lt_of_cell hc, by rw [hc, ← hu]⟩
      · have hrep : ∀ (rs : List Nat), (∀ r ∈ rs, r < len) → Reps (repRow (fun b => b < W.heap.size) W) 1 (rs.map fun r => .slice (A r) (L r) (C r)) (rs.map fun r => (Z r).take (L r)) := by
          intro rs
          induction rs with
          | nil => intro _; rfl
          | cons r rs ih =>
            intro hrs
            have hrl := hrs r (by simp)
            obtain ⟨hc, hLC, hCm, hZl, hwf, hn, hs⟩ := h6 r (by omega)
            refine ⟨[.slice (A r) (L r) (C r)], _, rfl, rfl, ⟨A r, C r, by rw [hZ r hrl], by rw [hZ r hrl]; exact hLC, by unfold maxLen at hCm; omega, ?_⟩, ih (fun r h => hrs r (by simp [h]))⟩
            intro i u hu
            rw [ints, List.getElem?_map] at hu
            cases hz2 : ((Z r).take (L r))[i]? with
            | none => rw [hz2] at hu; cases hu
            | some x =>
              rw [hz2] at hu
              injection hu with hu
              obtain ⟨hi, hx⟩ := List.getElem?_eq_some_iff.1 hz2
              rw [hZ r hrl] at hi
              cases hA : A r with
              | none => have := hn hA; omega
              | some ar =>
                obtain ⟨_, hcell⟩ := hs ar hA
                have hci := hcell i (by omega)
                have hget : (Z r).getD i 0 = x := by
                  rw [← hx, List.getElem_take, List.getD_eq_getElem?_getD, List.getElem?_eq_getElem (by omega)]; rfl
                rw [hget] at hci
                have hs0 : ar.spot = none := by
                  have := congrArg Addr.spot (spot_of_cell (hcell 0 (by omega)))
                  simpa [Addr.add] using this
                obtain ⟨b2, o2, sp2⟩ := ar
                simp only at hs0
                subst hs0
                rw [add_mk] at hci
                exact ⟨b2, o2, rfl, lt_of_cell hci, by rw [hci, ← hu]⟩
        exact hrep _ (fun r h => List.mem_range.1 h)
    · obtain ⟨r, hr, rfl⟩ := List.mem_map.1 hl
      rw [hZ r (List.mem_range.1 hr)]
      exact hw r (List.mem_range.1 hr)
end
end Go.Proofs.Ytombhhhaidmpeaa
