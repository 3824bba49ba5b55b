/- A list of lists of numbers that a call builds row by row: its rows as pieces, and as data. No condition. -/
import Derived.Test.YtombhhhaidmpeaaNote
import Derived.Test.YtombhhhaidmpeaaSnSame
import Derived.Test.YtombhhhaidmpeaaGe
import Derived.Test.YtombhhhaidmpeaaTransit
import Derived.Test.YtombhhhaidmpeaaMarkQ
namespace Go.Proofs.Ytombhhhaidmpeaa
open Go.RowKit
set_option linter.unusedVariables false
set_option linter.unusedSimpArgs false
set_option linter.unusedSectionVars false

/-- a list of numbers: where it lies, its room, what is in it -/
abbrev QI := Option Addr × Nat × List Int
def ivals (rs : List QI) : List Value := rs.map fun r => .slice r.1 r.2.2.length r.2.1
def ifam {w0 : World} {M : Nat → Prop} (rs : List QI) : List (Chunk w0 M) := rs.map fun r => orow 3 r.1 r.2.1 (ints r.2.2)
theorem ivals_at {rs : List QI} {k : Nat} {r : QI} (h : rs[k]? = some r) : (ivals rs)[k]? = some (.slice r.1 r.2.2.length r.2.1) := by simp [ivals, h]
theorem ifam_at {w0 : World} {M : Nat → Prop} {rs : List QI} {k : Nat} {r : QI} (h : rs[k]? = some r) : (ifam (w0 := w0) (M := M) rs)[k]? = some (orow 3 r.1 r.2.1 (ints r.2.2)) := by simp [ifam, h]
theorem ivals_set {rs : List QI} {k : Nat} (r : QI) : (ivals rs).set k (.slice r.1 r.2.2.length r.2.1) = ivals (rs.set k r) := by simp [ivals, List.map_set]
theorem ifam_set {w0 : World} {M : Nat → Prop} {rs : List QI} {k : Nat} (r : QI) : ((ifam (w0 := w0) (M := M) rs).set k nop).set k (orow 3 r.1 r.2.1 (ints r.2.2)) = ifam (rs.set k r) := by simp [ifam, List.map_set]
theorem ivals_len (rs : List QI) : (ivals rs).length = rs.length := by simp [ivals]
theorem ivals_rep (nn : Nat) : ivals (List.replicate nn ((none, 0, []) : QI)) = List.replicate nn (.slice none 0 0) := by simp [ivals]
theorem St.famI0 {w0 w : World} {M : Nat → Prop} {cs : List (Chunk w0 M)} (h : St w0 M cs w) (nn : Nat) : St w0 M (famC (ifam (List.replicate nn ((none, 0, []) : QI))) :: cs) w := by
  have hm : ∀ c ∈ (ifam (w0 := w0) (M := M) (List.replicate nn ((none, 0, []) : QI))), c = orow 3 none 0 (ints []) := fun c hc => by
    obtain ⟨r, hr, rfl⟩ := List.mem_map.1 hc
    rw [List.eq_of_mem_replicate hr]
  refine h.add (Ext.refl' w) ⟨fun c hc => ?_, ?_⟩ (fun k hk => ?_)
  · rw [hm c hc]
    exact ⟨by simp [ints], by omega, .inl ⟨rfl, rfl⟩⟩
  · rw [List.pairwise_iff_getElem]
    intro i j hi hj _ k hk
    rw [hm _ (List.getElem_mem hi)] at hk
    obtain ⟨o, h⟩ := hk
    cases h
  · obtain ⟨c, hc, hk⟩ := hk
    rw [hm c hc] at hk
    obtain ⟨o, h⟩ := hk
    cases h
/-- what such a row reads as -/
theorem orow_ri {w0 w : World} {M : Nat → Prop} {e : TypeId} {A : Option Addr} {c : Nat} {xs : List Int} (h : (orow e A c (ints xs) : Chunk w0 M).ok w) : RI All w A xs := by
  obtain ⟨h1, h2, h3⟩ := h
  intro j u hu
  rcases h3 with ⟨rfl, rfl⟩ | ⟨g, o, cur, rfl, h4, h5, h6⟩
  · have := (List.getElem?_eq_some_iff.1 hu).1
    omega
  · exact ⟨g, o, rfl, trivial, cell_of_heap h4 (by simpa using h6 j u hu)⟩
/-- the list of lists as data -/
theorem fam_rw {w0 w : World} {M : Nat → Prop} {rs : List QI} (h : (famC (ifam (w0 := w0) (M := M) rs)).ok w) {A : Option Addr} (hv : RV All w A (ivals rs)) : RW2 ReV All w A (rs.map (·.2.2)) := by
  refine ⟨_, hv, by simp [ivals], fun i h1 h2 => ?_⟩
  have hi : i < rs.length := by simpa using h2
  have hc := h.1 _ (List.mem_map.2 ⟨rs[i], List.getElem_mem hi, rfl⟩)
  refine ⟨rs[i].1, rs[i].2.1, by simp [ivals], ?_, hc.2.1, ?_⟩
  · have := hc.1
    simpa [ints] using this
  · have := orow_ri hc
    simpa using this
/-- a block becomes data, beside the data -/
theorem St.freezeB {w0 w u : World} {M T : Nat → Prop} {cs : List (Chunk w0 M)} {f : Chunk w0 M → List (Chunk w0 M)} {g : Nat} {t : TypeId} {vs : List Value} (h : St w0 M (blk g vs t :: cs) w) [hp : PickF cs T u f] :
    ∃ T' : Nat → Prop, St w0 M (f (froz T' w)) w ∧ Into T T' u w ∧ FCs T' w g 0 vs := by
  have hi : Into T T u w := h.frozInto (hp := (inferInstance : PickF (blk g vs t :: cs) T u (fun d => blk g vs t :: f d)))
  have hb : w.heap[g]? = some (.cells vs.toArray t (0, 0)) := h.head
  exact ⟨_, h.freeze, hi.widen (fun k hk => .inr hk), ⟨.inl rfl, fun i v hv => by rw [Nat.zero_add]; exact cell_of_heap hb (by simpa using hv)⟩⟩
theorem FCs.take {T : Nat → Prop} {u : World} {b j : Nat} {us : List Value} (h : FCs T u b j us) (k : Nat) : FCs T u b j (us.take k) := ⟨h.t, fun i v hv => h.c i v (by
  rw [List.getElem?_take] at hv
  split at hv
  · exact hv
  · cases hv)⟩
theorem FCs.one {T : Nat → Prop} {u : World} {b j : Nat} {us : List Value} (h : FCs T u b j us) {i : Nat} {v : Value} (hv : us[i]? = some v) : FC T u b (j + i) v := ⟨h.t, h.c i v hv⟩
/-- pattern.Check and Transit by lengths -/
theorem check_nn {S : Nat → Prop} {A1 A2 A3 : Option Addr} {c1 c2 c3 n na : Nat} {p : Pat} {w : World} (e1 : p.len.length = n) (e3 : p.arcs.length = na) (hp : PatAt S w ⟨A1, c1, A2, c2, A3, c3⟩ p) (hg : Good p) :
    Calls Try.prog 36 #[.agg #[.slice A1 n c1, .slice A2 n c2, .slice A3 na c3]] w fun e w' => e = .returned (.int .i64 0) ∧ Ext w w' := by
  subst e1 e3
  have := check_good ⟨A1, c1, A2, c2, A3, c3⟩ p w hp hg
  simp only [PV.val, hg.ckl] at this
  exact this
theorem transit_nn {S T : Nat → Prop} {A1 A2 A3 X : Option Addr} {c1 c2 c3 c n na ln : Nat} {p : Pat} {xs : List Int} {l : List Nat} {w : World} (e1 : p.len.length = n) (e3 : p.arcs.length = na) (el : sel p.arcs (overB xs) = l) (en : l.length = ln) (hp : PatAt S w ⟨A1, c1, A2, c2, A3, c3⟩ p) (hg : Good p) (hx : RI T w X xs) (hv : validB p.len xs = true) :
    Calls Try.prog 39 #[.agg #[.slice A1 n c1, .slice A2 n c2, .slice A3 na c3], .slice X n c] w (RetRow w 3 1 ln (ints (nats l))) := by
  subst e1 e3 el en
  have := transit_any ⟨A1, c1, A2, c2, A3, c3⟩ X c p xs w hp hg hx hv
  rw [(valid_iff.1 hv).1, idxs_sel] at this
  simp only [PV.val, hg.ckl, List.length_map] at this
  exact this
end Go.Proofs.Ytombhhhaidmpeaa
