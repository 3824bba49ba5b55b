/- The sanity check of chapter 18. No condition. -/
import Derived.Test.YtmjmdncdmmcmaaaGd
import Derived.Test.YtmjmdncdmmcmaaaGc
import Derived.MapKept
import Derived.Carry
import Derived.Test.YtmjmdncdmmcmaaaGe
namespace Go.Proofs.Ytmjmdncdmmcmaaa
open Go.RowKit
set_option linter.unusedVariables false
set_option linter.unusedSimpArgs false

/-- the first n pieces become data -/
theorem St.freezeN {w0 w : World} {M : Nat → Prop} {cs : List (Chunk w0 M)} (n : Nat) (h : St w0 M cs w) : St w0 M (froz (fun k => ∃ c ∈ cs.take n, c.own k) w :: cs.drop n) w := by
  have hcs : cs = cs.take n ++ cs.drop n := (List.take_append_drop n cs).symm
  have hap := h.apart
  rw [hcs, List.pairwise_append] at hap
  refine ⟨h.keep, ?_, ?_, List.pairwise_cons.2 ⟨?_, hap.2.1⟩⟩
  · intro c hc
    rcases List.mem_cons.1 hc with rfl | hc
    · rintro k ⟨c, hc, hk⟩
      exact ⟨c.lt (h.all c (List.mem_of_mem_take hc)) hk, rfl⟩
    · exact h.all c (List.mem_of_mem_drop hc)
  · intro c hc k hk
    rcases List.mem_cons.1 hc with rfl | hc
    · obtain ⟨c, hc, hk⟩ := hk
      exact h.new c (List.mem_of_mem_take hc) k hk
    · exact h.new c (List.mem_of_mem_drop hc) k hk
  · rintro d hd k ⟨c, hc, hk⟩
    exact hap.2.2 c hc d hd k hk

/-- the example of chapter 18 -/
def exPat : Pat := ⟨[2, 1], [[0], [0]], [⟨0, 2, 1, 1⟩]⟩
theorem exPat_good : Good exPat := by
  have h0 := Good.none (n := 2) (by omega) (by omega)
  have h1 := h0.more (q := 0) (by simp [Pat.none]) (by simp [Pat.none, nth])
  have h2 := h1.more (q := 0) (by simp [Pat.none, Pat.more]) (by simp [Pat.none, Pat.more, nth])
  have h3 := h2.recv (s := 0) (q := 1) (k := 2) (by simp [Pat.none, Pat.more]) (by simp [Pat.none, Pat.more]) (by omega) (by omega) (by simp [Pat.none, Pat.more, nth]) (by simp [Pat.none, Pat.more, nth]) (by simp [Pat.none, Pat.more])
  exact h3
theorem ex_low : Fin lowStep exPat.arcs [1, 1] [1, 0] := ⟨⟨1, by decide⟩, by decide⟩
theorem ex_rai : Fin raiStep exPat.arcs [1, 1] [2, 1] := ⟨⟨1, by decide⟩, by decide⟩
theorem RV.ofBlkT {T : Nat → Prop} {w : World} {t : TypeId} {g : Nat} {us : List Value} (h : w.heap[g]? = some (.cells us.toArray t (0, 0))) (ht : T g) : RV T w (some ⟨g, 0, none⟩) us := fun j u hu => ⟨g, 0, rfl, ht, by rw [Nat.zero_add]; exact cell_of_heap h (by simpa using hu)⟩

theorem St.blkRV {w0 w : World} {M : Nat → Prop} {cs : List (Chunk w0 M)} {f : Chunk w0 M → List (Chunk w0 M)} {g : Nat} {vs : List Value} {t : TypeId} (h : St w0 M cs w) [hp : PickB g cs vs t f] : RV All w (some ⟨g, 0, none⟩) vs := RV.ofBlk ((hp.eq ▸ h : St w0 M (f (blk g vs t)) w).at_ hp.gap : w.heap[g]? = _)
section
variable {S T : Nat → Prop} {w : World} {A1 A2 A3 X : Option Addr} {c1 c2 c3 c : Nat}
theorem ex_orphans (hp : PatAt S w ⟨A1, c1, A2, c2, A3, c3⟩ exPat) (hx : RV T w X [.int .i64 1, .int .i64 1]) : Calls Try.prog 60 #[.agg #[.slice A1 2 c1, .slice A2 2 c2, .slice A3 1 c3], .slice X 2 c] w (RetRow w 3 1 1 [.int .i64 0]) :=
  (orphans_any ⟨A1, c1, A2, c2, A3, c3⟩ X c exPat [1, 1] w hp exPat_good hx (by decide)).mono (fun e w' h => h)
end
theorem reps_one {w : World} : Reps (repArc w) 4 [.int .i64 0, .int .i64 2, .int .i64 1, .int .i64 1] exPat.arcs := ⟨_, [], rfl, rfl, rfl, rfl⟩
end Go.Proofs.Ytmjmdncdmmcmaaa

/- Maps keyed by points: look-up, update, as operations of a walk. No condition. -/
namespace Go.Proofs.Ytmjmdncdmmcmaaa
open Go.RowKit
set_option linter.unusedVariables false
set_option linter.unusedSectionVars false

/-- a point as a value -/
abbrev ptv (k : Int × Int) : Value := .agg #[.int .i64 k.1, .int .i64 k.2]
theorem ck_int (e : Bool) (a : Int) (w : World) : (Instr.checkKey e 9999 3 (.int .i64 a)).run Try.prog w = .ok () w := by
  show (Instr.checkKey e (9998 + 1) 3 (.int .i64 a)).run Try.prog w = .ok () w
  rw [Instr.checkKey]
  simp only [Sem.run_bind, run_underlying Try.underlying3, Result.andThen_ok, Sem.run_pure]
/-- entries as a list of points and values -/
def EntL (es : List MapEntry) (L : List ((Int × Int) × Value)) : Prop := es.map (fun e => (e.key, e.val)) = L.map (fun x => (ptv x.1, x.2))
theorem EntL.cons {e : MapEntry} {es : List MapEntry} {L : List ((Int × Int) × Value)} (h : EntL (e :: es) L) : ∃ k v L', L = (k, v) :: L' ∧ e.key = ptv k ∧ e.val = v ∧ EntL es L' := by
  cases L with
  | nil => simp [EntL] at h
  | cons x L =>
    simp only [EntL, List.map_cons, List.cons.injEq, Prod.mk.injEq] at h
    exact ⟨x.1, x.2, L, rfl, h.1.1, h.1.2, h.2⟩
theorem EntL.nil {L : List ((Int × Int) × Value)} (h : EntL [] L) : L = [] := by
  cases L with
  | nil => rfl
  | cons x L => simp [EntL] at h
/-- what finding a key yields -/
def Found (k : Int × Int) (L : List ((Int × Int) × Value)) (i0 : Nat) (r : Option (Nat × Value)) : Prop :=
  (r = none ∧ L.lookup k = none) ∨ ∃ i v, r = some (i0 + i, v) ∧ L.lookup k = some v ∧ L[i]? = some (k, v) ∧ (L.take i).lookup k = none
/-- block g is a map, m says what it holds -/
def MapAt (w : World) (g : Nat) (m : Int × Int → Option Value) : Prop := ∃ (es : Array MapEntry) (clock : Nat) (L : List ((Int × Int) × Value)), w.heap[g]? = some (.map es clock) ∧ EntL es.toList L ∧ ∀ k, L.lookup k = m k
def mpc {w0 : World} {M : Nat → Prop} (g : Nat) (m : Int × Int → Option Value) : Chunk w0 M :=
  ⟨fun k => k = g, fun w => MapAt w g m, fun {w w'} h hk => by obtain ⟨es, c, L, h1, h2, h3⟩ := h; exact ⟨es, c, L, (hk g (.inl rfl)).trans h1, h2, h3⟩, fun {w k} h e => by obtain ⟨es, c, L, h1, _⟩ := h; subst e; exact lt_of_block h1⟩
class PickM {w0 : World} {M : Nat → Prop} (g : Nat) (cs : List (Chunk w0 M)) (m : outParam (Int × Int → Option Value)) (f : outParam (Chunk w0 M → List (Chunk w0 M))) : Prop where
  eq : cs = f (mpc g m)
  gap : Gap f
instance {w0 : World} {M : Nat → Prop} (g : Nat) (m : Int × Int → Option Value) (r : List (Chunk w0 M)) : PickM g (mpc g m :: r) m (fun c => c :: r) := ⟨rfl, .head r⟩
instance (priority := low) {w0 : World} {M : Nat → Prop} (g : Nat) (m : Int × Int → Option Value) (d : Chunk w0 M) (r : List (Chunk w0 M)) (f : Chunk w0 M → List (Chunk w0 M)) [h : PickM g r m f] : PickM g (d :: r) m (fun c => d :: f c) := ⟨by rw [h.eq], .tail d h.gap⟩
def mget (m : Int × Int → Option Value) (z : Value) (k : Int × Int) : Value := (m k).getD z
def mput (m : Int × Int → Option Value) (k : Int × Int) (v : Value) : Int × Int → Option Value := fun l => if l = k then some v else m l

theorem lookup_set {k : Int × Int} {v : Value} : ∀ {L : List ((Int × Int) × Value)} {i : Nat} {u : Value}, L[i]? = some (k, u) → ∀ l, (L.set i (k, v)).lookup l = if l = k then (if (L.take i).lookup k = none then some v else (L.take i).lookup k) else L.lookup l
  | [], i, u, h, l => by simp at h
  | x :: L, 0, u, h, l => by
    simp only [List.getElem?_cons_zero, Option.some.injEq] at h
    subst h
    rw [List.set_cons_zero, List.lookup_cons, List.lookup_cons]
    by_cases e : l = k
    · subst e; simp
    · have hb : (l == k) = false := by simpa using e
      rw [hb, if_neg e]
  | (k1, v1) :: L, i + 1, u, h, l => by
    have ih := lookup_set (v := v) (L := L) (i := i) (u := u) (by simpa using h) l
    rw [List.set_cons_succ, List.lookup_cons, List.lookup_cons, List.take_succ_cons, List.lookup_cons, ih]
    by_cases e : l = k1
    · subst e
      simp only [BEq.rfl]
      by_cases e2 : l = k
      · subst e2; simp
      · rw [if_neg e2]
    · have hb : (l == k1) = false := by simpa using e
      rw [hb]
      by_cases e2 : l = k
      · subst e2
        rw [if_pos rfl, if_pos rfl, hb]
      · rw [if_neg e2, if_neg e2]
theorem lookup_snoc {k : Int × Int} {v : Value} : ∀ {L : List ((Int × Int) × Value)}, L.lookup k = none → ∀ l, (L ++ [(k, v)]).lookup l = if l = k then some v else L.lookup l
  | [], _, l => by
    rw [List.nil_append, List.lookup_cons]
    by_cases e : l = k
    · subst e; simp
    · have hb : (l == k) = false := by simpa using e
      rw [hb, if_neg e]
  | (k1, v1) :: L, h, l => by
    have hk : ¬ k = k1 := fun e => by subst e; simp at h
    have hb : (k == k1) = false := by simpa using hk
    rw [List.lookup_cons, hb] at h
    have ih := lookup_snoc (v := v) h l
    rw [List.cons_append, List.lookup_cons, List.lookup_cons, ih]
    by_cases e : l = k1
    · subst e
      have hne : ¬ l = k := fun e => hk e.symm
      simp [hne]
    · have hb2 : (l == k1) = false := by simpa using e
      rw [hb2]
section
variable {ops : Array Oper} {Q : Exit → Act → World → Prop} {a : Act} {w w0 : World} {M : Nat → Prop} {cs fx : List (Chunk w0 M)} {f : Chunk w0 M → List (Chunk w0 M)} {rest : List Oper} {d : Option Tmp} {tt t e : TypeId} {pos : String} {af : Array Edge} {gd : Option (Nat × Bool)} {x y z : Operand} {md : Region.Mode} {fuel : Nat} {listed : Array Bool} {late : List Nat} {g : Nat} {i j : Int} {m : Int × Int → Option Value} {v zv : Value}
theorem oK {c : Bool} (k : wpList Try.prog ops Q (⟨d, .lookup t x y c, tt, pos, af, gd⟩ :: rest) a w) : wpList Try.prog ops Q (⟨d, .lookup t x y c, tt, pos, af, gd⟩ :: rest) a w := k
theorem oU (k : wpList Try.prog ops Q (⟨d, .mapUpdate t x y z, tt, pos, af, gd⟩ :: rest) a w) : wpList Try.prog ops Q (⟨d, .mapUpdate t x y z, tt, pos, af, gd⟩ :: rest) a w := k
theorem St.mapAt (h : St w0 M cs w) [hp : PickM g cs m f] : MapAt w g m := (hp.eq ▸ h : St w0 M (f (mpc g m)) w).at_ hp.gap
/-- a new map -/
theorem sW1 (hS : St w0 M cs w) (hw : Region.wanted ⟨d, .makeMap t none, tt, pos, af, gd⟩ (yielded ops a.tmps) = true) (k : ∀ g w', St w0 M (mpc g (fun _ => none) :: cs) w' → wpList Try.prog ops Q rest (a.put d (.map (some g))) w') :
    wpList Try.prog ops Q (⟨d, .makeMap t none, tt, pos, af, gd⟩ :: rest) a w :=
  st_run hw (w' := w.alloc (.map #[] 0)) (v := .map (some w.heap.size)) (by simp only [execOp, Option.map_none, Sem.run_bind, run_makeMap, Result.andThen_ok, Sem.run_pure]) (k w.heap.size _ (hS.add ((Ext.refl' w).alloc' _) ⟨#[], 0, [], heap_new w _, rfl, fun _ => rfl⟩ (fun k e => Nat.le_of_eq e.symm)))
end
end Go.Proofs.Ytmjmdncdmmcmaaa

/- Clocks: the clock of a point is the least consistent cut that contains it. No condition. -/
namespace Go.Proofs.Ytmjmdncdmmcmaaa
set_option linter.unusedVariables false
set_option linter.unusedSimpArgs false

/-- c is the clock of event k of process q -/
structure IsClk (p : Pat) (q : Nat) (k : Int) (c : List Int) : Prop where
  v : validB p.len c = true
  s : consB p.arcs c = true
  e : nth c q = k
  l : ∀ z, validB p.len z = true → consB p.arcs z = true → k ≤ nth z q → Le p.len.length c z
theorem le_antisymm {n : Nat} {x y : List Int} (hx : x.length = n) (hy : y.length = n) (h1 : Le n x y) (h2 : Le n y x) : x = y := by
  apply List.ext_getElem (by omega)
  intro i hi hj
  have a := h1 i (by omega)
  have b := h2 i (by omega)
  rw [nth_eq hi, nth_eq hj] at a b
  omega
theorem IsClk.len {p : Pat} {q : Nat} {k : Int} {c : List Int} (h : IsClk p q k c) : c.length = p.len.length := (valid_iff.1 h.v).1
theorem IsClk.unique {p : Pat} {q : Nat} {k : Int} {c d : List Int} (h : IsClk p q k c) (h' : IsClk p q k d) : c = d :=
  le_antisymm h.len h'.len (h.l d h'.v h'.s (by rw [h'.e]; omega)) (h'.l c h.v h.s (by rw [h.e]; omega))
/-- the cut of all points of rank at most R -/
def rankCut (len : List Int) (rk : Nat → Int → Nat) (R : Nat) : List Int := (List.range len.length).map fun q => (((List.range (nth len q).toNat).filter fun (j : Nat) => decide (rk q ((j : Int) + 1) ≤ R)).length : Int)
theorem rankCut_nth {len : List Int} {rk : Nat → Int → Nat} {R q : Nat} (hq : q < len.length) : nth (rankCut len rk R) q = (((List.range (nth len q).toNat).filter fun (j : Nat) => decide (rk q ((j : Int) + 1) ≤ R)).length : Int) := by
  rw [nth_eq (by simpa [rankCut] using hq)]
  simp [rankCut]
/-- of a rising predicate's complement: the first ones -/
theorem filter_down {P : Nat → Bool} : ∀ (n : Nat), (∀ i j, i ≤ j → j < n → P j = true → P i = true) → ∀ i, i < n → (P i = true ↔ i < ((List.range n).filter P).length)
  | 0, _, i, hi => absurd hi (by omega)
  | n + 1, hd, i, hi => by
    have ih := filter_down n (fun i j h1 h2 h3 => hd i j h1 (by omega) h3)
    have hle : ((List.range n).filter P).length ≤ n := by have := List.length_filter_le P (List.range n); simpa using this
    rw [List.range_succ, List.filter_append, List.length_append]
    by_cases hP : P n = true
    · have hall : ((List.range n).filter P).length = n := by
        rw [List.filter_eq_self.2 (fun j hj => hd j n (by have := List.mem_range.1 hj; omega) (by omega) hP)]; simp
      have h1 := hd i n (by omega) (by omega) hP
      simp [hP, h1, hall]; omega
    · have hP' : P n = false := by simpa using hP
      have h0 : (List.filter P [n]).length = 0 := by simp [hP']
      rw [h0, Nat.add_zero]
      rcases Nat.lt_succ_iff_lt_or_eq.1 hi with h | h
      · exact ih i h
      · subst h
        rw [hP']
        constructor
        · intro h; cases h
        · intro h; omega
section
variable {p : Pat} {rk : Nat → Int → Nat}
theorem rank_mono (hr : Ranked p.len.length p.len p.arcs rk) {q : Nat} (hq : q < p.len.length) : ∀ (d : Nat) (i : Int), 0 ≤ i → i + d ≤ nth p.len q → rk q i ≤ rk q (i + d)
  | 0, i, _, _ => by simp
  | d + 1, i, h0, h => by
    have h1 := rank_mono hr hq d i h0 (by omega)
    have h2 := hr.1 q hq (i + d) (by omega) (by omega)
    have e : i + (d : Int) + 1 = i + ((d + 1 : Nat) : Int) := by omega
    rw [e] at h2; omega
theorem rankCut_iff (hg : Good p) (hr : Ranked p.len.length p.len p.arcs rk) (R : Nat) {q : Nat} (hq : q < p.len.length) {k : Int} (h1 : 1 ≤ k) (hk : k ≤ nth p.len q) : k ≤ nth (rankCut p.len rk R) q ↔ rk q k ≤ R := by
  rw [rankCut_nth hq]
  have hd := filter_down (P := fun (j : Nat) => decide (rk q ((j : Int) + 1) ≤ R)) (nth p.len q).toNat (fun i j h2 h3 h4 => by
    have h5 := rank_mono hr hq (j - i) ((i : Int) + 1) (by omega) (by omega)
    rw [show (i : Int) + 1 + ((j - i : Nat) : Int) = (j : Int) + 1 by omega] at h5
    simp at h4 ⊢; omega) (k - 1).toNat (by omega)
  rw [show (((k - 1).toNat : Int)) + 1 = k by omega] at hd
  simp only [decide_eq_true_eq] at hd
  rw [hd]; omega
theorem rankCut_good (hg : Good p) (hr : Ranked p.len.length p.len p.arcs rk) (R : Nat) : validB p.len (rankCut p.len rk R) = true ∧ consB p.arcs (rankCut p.len rk R) = true := by
  have hb : ∀ q, q < p.len.length → 0 ≤ nth (rankCut p.len rk R) q ∧ nth (rankCut p.len rk R) q ≤ nth p.len q := fun q hq => by
    rw [rankCut_nth hq]
    have := List.length_filter_le (fun (j : Nat) => decide (rk q ((j : Int) + 1) ≤ R)) (List.range (nth p.len q).toNat)
    have h0 := hg.lo q hq
    simp at this
    omega
  refine ⟨valid_iff.2 ⟨by simp [rankCut], hb⟩, cons_iff.2 fun a ha h1 h2 => ?_⟩
  have ho := hg.arc a ha
  have h3 := (rankCut_iff hg hr R ho.to (by omega) ho.at1).1 h2
  have h4 := hr.2 a ha (by omega)
  by_cases h0 : 1 ≤ a.ix
  · exact (rankCut_iff hg hr R ho.fr h0 ho.ix1).2 (by omega)
  · have := (hb a.fr ho.fr).1
    have := ho.ix0
    omega
/-- a point of lower rank has not seen one of higher rank -/
theorem IsClk.below (hg : Good p) (hr : Ranked p.len.length p.len p.arcs rk) {s q : Nat} {j k : Int} {c : List Int} (h : IsClk p s j c) (hs : s < p.len.length) (hj : 0 ≤ j) (hj' : j ≤ nth p.len s) (hq : q < p.len.length) (hk : 1 ≤ k) (hk' : k ≤ nth p.len q) (hlt : rk s j < rk q k) : nth c q < k := by
  obtain ⟨h1, h2⟩ := rankCut_good hg hr (rk s j)
  have h3 : j ≤ nth (rankCut p.len rk (rk s j)) s := by
    by_cases h0 : 1 ≤ j
    · exact (rankCut_iff hg hr _ hs h0 hj').2 (Nat.le_refl _)
    · have := ((valid_iff.1 h1).2 s hs).1; omega
  have h4 := h.l _ h1 h2 h3 q hq
  have h5 := rankCut_iff hg hr (rk s j) hq hk hk'
  omega
/-- where the message came from that an event received -/
def srcF (az : List Arc) (k : Int × Int) : Option (Nat × Int) := (az.reverse.find? (fun a => decide (a.at_ ≠ 0) && decide (((a.to : Int), a.at_) = k))).map fun a => (a.fr, a.ix)
theorem clk_zero (hg : Good p) {q : Nat} (hq : q < p.len.length) : IsClk p q 0 (List.replicate p.len.length 0) :=
  ⟨valid_zero hg, cons_zero hg, by rw [nth_rep], fun z hz _ _ => fun k hk => by rw [nth_rep]; exact ((valid_iff.1 hz).2 k hk).1⟩
/-- the clock behind an event that received nothing -/
theorem clk_step (hg : Good p) {q : Nat} {k : Int} {c : List Int} (hq : q < p.len.length) (hk : 1 ≤ k) (hk' : k ≤ nth p.len q) (h : IsClk p q (k - 1) c) (hn : ∀ a ∈ p.arcs, a.to = q → a.at_ ≠ k) : IsClk p q k (c.set q k) := by
  obtain ⟨hl, hb⟩ := valid_iff.1 h.v
  have hn' : ∀ r, nth (c.set q k) r = if q = r then k else nth c r := fun r => nth_set (by omega) k
  refine ⟨valid_iff.2 ⟨by simpa using hl, fun r hr => ?_⟩, cons_iff.2 fun a ha h1 h2 => ?_, by rw [hn', if_pos rfl], fun z hz hc hzk => fun r hr => ?_⟩
  · have := hb r hr
    rw [hn']; split
    · rename_i e; subst e; omega
    · exact this
  · have ho := hg.arc a ha
    have hq' := h.e
    have h3 := cons_iff.1 h.s a ha h1
    rw [hn'] at h2 ⊢
    split at h2
    · rename_i e
      have h4 := hn a ha e.symm
      have h5 := h3 (by rw [← e]; omega)
      rw [if_neg (fun e2 => ho.ne (e2.symm.trans e))]; exact h5
    · have h5 := h3 h2
      split
      · rename_i e; rw [← e] at h5; omega
      · exact h5
  · rw [hn']; split
    · rename_i e; subst e; exact hzk
    · exact h.l z hz hc (by omega) r hr
/-- the clock behind an event that received a message -/
theorem clk_recv (hg : Good p) (hr : Ranked p.len.length p.len p.arcs rk) {q : Nat} {k : Int} {c d : List Int} {a : Arc} (ha : a ∈ p.arcs) (hto : a.to = q) (hat : a.at_ = k) (hk : 1 ≤ k) (h : IsClk p q (k - 1) c) (h' : IsClk p a.fr a.ix d) : IsClk p q k ((List.zipWith max c d).set q k) := by
  have ho := hg.arc a ha
  have hq : q < p.len.length := by rw [← hto]; exact ho.to
  have hk' : k ≤ nth p.len q := by rw [← hto, ← hat]; exact ho.at1
  have hdq : nth d q < k := h'.below hg hr ho.fr ho.ix0 ho.ix1 hq hk hk' (by have := hr.2 a ha (by omega); rw [hto, hat] at this; exact this)
  have hj := join_good hg h.v h'.v h.s h'.s
  have hcd : c.length = d.length := by rw [h.len, h'.len]
  have hz : zipI max c d = List.zipWith max c d := by simp [zipI, hcd]
  rw [hz] at hj
  have hnj : ∀ r, r < p.len.length → nth (List.zipWith max c d) r = max (nth c r) (nth d r) := fun r hr => by rw [← hz]; exact zipI_nth hcd (by rw [h'.len]; exact hr)
  have hlz : (List.zipWith max c d).length = p.len.length := by simp [h.len, h'.len]
  have hn' : ∀ r, nth ((List.zipWith max c d).set q k) r = if q = r then k else nth (List.zipWith max c d) r := fun r => nth_set (by omega) k
  refine ⟨valid_iff.2 ⟨by simpa using hlz, fun r hr => ?_⟩, cons_iff.2 fun b hb h1 h2 => ?_, by rw [hn', if_pos rfl], fun z hz' hc hzk => fun r hr' => ?_⟩
  · rw [hn']; split
    · rename_i e; subst e; omega
    · exact (valid_iff.1 hj.1).2 r hr
  · have hob := hg.arc b hb
    have h3 := cons_iff.1 hj.2.1 b hb h1
    rw [hn'] at h2 ⊢
    split at h2
    · rename_i e
      rw [if_neg (fun e2 => hob.ne (e2.symm.trans e))]
      by_cases hbk : b.at_ = k
      · have hba : b.fr = a.fr ∧ b.ix = a.ix := by
          obtain ⟨i, hi, rfl⟩ := List.getElem_of_mem ha
          obtain ⟨j, hj', rfl⟩ := List.getElem_of_mem hb
          rcases Nat.lt_trichotomy i j with hlt | rfl | hlt
          · have := hg.uniq i j hi hj' hlt (by rw [hto, e]) (by rw [hat, hbk]); omega
          · exact ⟨rfl, rfl⟩
          · have := hg.uniq j i hj' hi hlt (by rw [hto, e]) (by rw [hat, hbk]); omega
        rw [hnj _ hob.fr, hba.1, hba.2]
        have := h'.e
        omega
      · refine h3 ?_
        rw [hnj _ hob.to, ← e]
        have := h.e
        omega
    · have h5 := h3 h2
      split
      · rename_i e
        rw [hnj _ hob.fr, ← e] at h5
        have := h.e
        omega
      · exact h5
  · rw [hn']; split
    · rename_i e; subst e; exact hzk
    · rw [hnj r hr']
      have h6 := h.l z hz' hc (by omega) r hr'
      have h7 := h'.l z hz' hc (cons_iff.1 hc a ha (by omega) (by rw [hto, hat]; exact hzk)) r hr'
      omega
end
end Go.Proofs.Ytmjmdncdmmcmaaa

/- causal: fits, raise, newHistory. Conditions: the pattern is good and lies in memory, the points are points of it. -/
namespace Go.Proofs.Ytmjmdncdmmcmaaa
open Go.RowKit
set_option linter.unusedVariables false
set_option linter.unusedSimpArgs false

def ptCells (a : Nat × Int) : List Value := [.int .i64 (a.1 : Int), .int .i64 a.2]
def repPt (w : World) (cs : List Value) (a : Nat × Int) : Prop := cs = ptCells a
def RPt (S : Nat → Prop) (w : World) (A : Option Addr) (l : List (Nat × Int)) : Prop := RL repPt 2 S w A l
theorem RPt.into {S S' : Nat → Prop} {w w' : World} {A : Option Addr} {l : List (Nat × Int)} (h : RPt S w A l) (k : Into S S' w w') : RPt S' w' A l := RL.into h k (fun _ _ h => h)
theorem RPt.fcs {S : Nat → Prop} {w : World} {A : Option Addr} {l : List (Nat × Int)} (h : RPt S w A l) {k : Nat} (hk : k < l.length) : ∃ b o, A = some ⟨b, o, none⟩ ∧ S b ∧ Cells w b (o + k * 2) (ptCells l[k]) := by
  obtain ⟨vs, hv, hr⟩ := h
  obtain ⟨cs, hcl, hcs, hat⟩ := hr.at_ hk
  unfold repPt at hcs
  subst hcs
  have h0 := hat 0 (by omega)
  obtain ⟨b, o, e, ht, _⟩ := hv (k * 2 + 0) _ (h0.trans (by simp [ptCells]; rfl))
  refine ⟨b, o, e, ht, fun i x hi => ?_⟩
  have hi2 : i < 2 := by
    have := (List.getElem?_eq_some_iff.1 hi).1
    simpa [ptCells] using this
  obtain ⟨b', o', e', _, hc⟩ := hv (k * 2 + i) x ((hat i hi2).trans hi)
  rw [e] at e'
  injection e' with e'; injection e' with e1 e2
  subst e1; subst e2
  rw [Nat.add_assoc]; exact hc
/-- a point of a pattern -/
abbrev PtOk (p : Pat) (a : Nat × Int) : Prop := a.1 < p.len.length ∧ 0 ≤ a.2 ∧ a.2 ≤ nth p.len a.1

/-- the state at the entry of a function that writes a row of its caller -/
theorem St.startRow {w : World} {e : TypeId} {sz n g c : Nat} {vs : List Value} (h : w.ownsRow 0 e sz (.slice (some ⟨g, 0, none⟩) n c) n vs) : St w (fun k => k = g) [row (.slice (some ⟨g, 0, none⟩) n c) e sz n vs] w := by
  refine ⟨Keep.refl _ _, ?_, ?_, by simp⟩
  · intro c hc
    rw [List.mem_singleton.1 hc]; exact h
  · intro c hc k hk
    rw [List.mem_singleton.1 hc] at hk
    injection hk with hk
    exact .inr hk.symm
theorem max_fill {cs ds : List Int} (hl : ds.length = cs.length) {k : Nat} (hk : k < cs.length) :
    ((List.zipWith max cs ds).take k ++ cs.drop k).set k (max (nth cs k) (nth ds k)) = (List.zipWith max cs ds).take (k + 1) ++ cs.drop (k + 1) := by
  have hlt : ((List.zipWith max cs ds).take k).length = k := by simp; omega
  rw [zipWith_take_succ max hk (by omega), List.append_assoc, List.set_append_right _ _ (by omega), hlt, Nat.sub_self, List.drop_eq_getElem_cons hk, List.set_cons_zero]
  rfl
theorem max_fill_at {cs ds : List Int} (hl : ds.length = cs.length) {k : Nat} (hk : k < cs.length) : (ints ((List.zipWith max cs ds).take k ++ cs.drop k))[k]? = some (.int .i64 (nth cs k)) := by
  have hlt : ((List.zipWith max cs ds).take k).length = k := by simp; omega
  rw [ints, List.getElem?_map, List.getElem?_append_right (by omega), hlt, Nat.sub_self, List.getElem?_drop, Nat.add_zero, List.getElem?_eq_getElem hk, nth_eq hk]
  rfl
end Go.Proofs.Ytmjmdncdmmcmaaa

/- causal.newHistory: a history with no clocks yet. Conditions: the messages lie in memory. -/
namespace Go.Proofs.Ytmjmdncdmmcmaaa
open Go.RowKit
set_option linter.unusedVariables false
set_option linter.unusedSimpArgs false

/-- the map of sources -/
def srcM (az : List Arc) : Int × Int → Option Value := fun l => (srcF az l).map fun a => .agg #[.int .i64 (a.1 : Int), .int .i64 a.2]
theorem srcF_nil (l : Int × Int) : srcF [] l = none := rfl
theorem srcF_snoc (az : List Arc) (a : Arc) (l : Int × Int) : srcF (az ++ [a]) l = if a.at_ ≠ 0 ∧ ((a.to : Int), a.at_) = l then some (a.fr, a.ix) else srcF az l := by
  unfold srcF
  rw [List.reverse_append]
  simp only [List.reverse_cons, List.reverse_nil, List.nil_append, List.singleton_append, List.find?_cons]
  by_cases h : a.at_ ≠ 0 ∧ ((a.to : Int), a.at_) = l
  · rw [if_pos h]
    have : (decide (a.at_ ≠ 0) && decide (((a.to : Int), a.at_) = l)) = true := by simp [h.1, h.2]
    rw [this]; rfl
  · rw [if_neg h]
    have : (decide (a.at_ ≠ 0) && decide (((a.to : Int), a.at_) = l)) = false := by
      rw [← Bool.not_eq_true]; intro hh; apply h; simpa using hh
    rw [this]
theorem srcM_put {az : List Arc} {a : Arc} (h : a.at_ ≠ 0) : mput (srcM az) ((a.to : Int), a.at_) (.agg #[.int .i64 (a.fr : Int), .int .i64 a.ix]) = srcM (az ++ [a]) := by
  funext l
  simp only [mput, srcM, srcF_snoc]
  by_cases e : l = ((a.to : Int), a.at_)
  · rw [if_pos e, if_pos ⟨h, e.symm⟩]; rfl
  · rw [if_neg e, if_neg (fun hh => e hh.2.symm)]
theorem srcM_skip {az : List Arc} {a : Arc} (h : a.at_ = 0) : srcM (az ++ [a]) = srcM az := by
  funext l
  simp only [srcM, srcF_snoc]
  rw [if_neg (fun hh => hh.1 h)]

end Go.Proofs.Ytmjmdncdmmcmaaa

/- causal: the state of a history during a call; copy; raise. Conditions: as said at each. -/
namespace Go.Proofs.Ytmjmdncdmmcmaaa
open Go.RowKit
set_option linter.unusedVariables false
set_option linter.unusedSimpArgs false
set_option linter.unusedSectionVars false

/-- the clocks that are known already -/
def Memo (p : Pat) (S : Nat → Prop) (w : World) (cm : Int × Int → Option Value) : Prop :=
  ∀ pt v, cm pt = some v → ∃ (q : Nat) (k : Int) (L : Option Addr) (cap : Nat) (c : List Int), pt = ((q : Int), k) ∧ v = .slice L p.len.length cap ∧ IsClk p q k c ∧ RI S w L c ∧ capOk p.len.length cap
theorem Memo.into {p : Pat} {S S' : Nat → Prop} {w w' : World} {cm : Int × Int → Option Value} (h : Memo p S w cm) (hi : Into S S' w w') : Memo p S' w' cm := fun pt v hv => by
  obtain ⟨q, k, L, cap, c, h1, h2, h3, h4, h5⟩ := h pt v hv
  exact ⟨q, k, L, cap, c, h1, h2, h3, h4.into hi, h5⟩
theorem Memo.put {p : Pat} {S : Nat → Prop} {w : World} {cm : Int × Int → Option Value} (h : Memo p S w cm) {q : Nat} {k : Int} {L : Option Addr} {cap : Nat} {c : List Int} (hc : IsClk p q k c) (hr : RI S w L c) (hcap : capOk p.len.length cap) : Memo p S w (mput cm ((q : Int), k) (.slice L p.len.length cap)) := fun pt v hv => by
  unfold mput at hv
  split at hv
  · rename_i e
    injection hv with hv
    exact ⟨q, k, L, cap, c, e, hv.symm, hc, hr, hcap⟩
  · exact h pt v hv
theorem Memo.none (p : Pat) (S : Nat → Prop) (w : World) : Memo p S w (fun _ => Option.none) := fun pt v hv => by cases hv
section
variable {w0 w w' : World} {M : Nat → Prop} {cs : List (Chunk w0 M)} {f1 f2 : Chunk w0 M → List (Chunk w0 M)} {gs gc : Nat} {sm cm cm' : Int × Int → Option Value}
/-- the entry of a function that may write the two maps of a history -/
theorem St.startH {w : World} (h1 : MapAt w gc cm) (h2 : MapAt w gs sm) (hne : gs ≠ gc) : St w (fun k => k = gc ∨ k = gs) [mpc gc cm, mpc gs sm] w := by
  refine ⟨Keep.refl _ _, ?_, ?_, ?_⟩
  · intro c hc
    simp only [List.mem_cons, List.not_mem_nil, or_false] at hc
    rcases hc with rfl | rfl
    · exact h1
    · exact h2
  · intro c hc k hk
    simp only [List.mem_cons, List.not_mem_nil, or_false] at hc
    rcases hc with rfl | rfl
    · exact .inr (.inl hk)
    · exact .inr (.inr hk)
  · refine List.pairwise_cons.2 ⟨fun c hc k hk hk2 => ?_, by simp⟩
    rw [List.mem_singleton.1 hc] at hk2
    have e1 : k = gc := hk
    have e2 : k = gs := hk2
    exact hne (e2.symm.trans e1)
/-- a call that wrote a history's maps, and made data -/
theorem St.usedH (h : St w0 M cs w) [hp1 : PickM gc cs cm f1] [hp2 : PickM gs (f1 nop) sm f2] (hk : Keep (fun k => ¬ (k = gc ∨ k = gs)) w w') (h1 : MapAt w' gc cm') (h2 : MapAt w' gs sm) :
    St w0 M (froz (fun k => w.heap.size ≤ k ∧ k < w'.heap.size) w' :: mpc gc cm' :: f2 (mpc gs sm)) w' := by
  have ha : St w0 M (f1 (mpc gc cm)) w := hp1.eq ▸ h
  obtain ⟨s, p1, p2⟩ := gap_perm hp1.gap (mpc gc cm)
  have hb : St w0 M (nop :: mpc gc cm :: s) w := (ha.perm p1).emp
  have hc : St w0 M (mpc gc cm :: f1 nop) w := (hb.perm (List.Perm.swap _ _ _)).perm ((p2 nop).cons _)
  rw [hp2.eq] at hc
  obtain ⟨s2, q1, q2⟩ := gap_perm hp2.gap (mpc gs sm)
  have hd : St w0 M (mpc gc cm :: mpc gs sm :: s2) w := hc.perm (q1.cons _)
  have hap := List.pairwise_cons.1 hd.apart
  have hne : ∀ k, k = gc → ¬ k = gs := fun k => hap.1 (mpc gs sm) (by simp) k
  have he := hd.join
  have hlt1 : gc < w.heap.size := (mpc gc cm : Chunk w0 M).lt (hd.all _ (by simp)) rfl
  have hlt2 : gs < w.heap.size := (mpc gs sm : Chunk w0 M).lt (hd.all _ (by simp)) rfl
  have hf : St w0 M (pair (froz (fun k => w.heap.size ≤ k ∧ k < w'.heap.size) w') (pair (mpc gc cm') (mpc gs sm)) :: s2) w' := by
    refine he.upd hk ⟨fun k hk => ⟨hk.2, rfl⟩, ⟨h1, h2, hne⟩, fun k h3 h4 => ?_⟩ (fun k hk => ?_)
    · rcases h4 with h4 | h4
      · have : k = gc := h4
        have := h3.1; omega
      · have : k = gs := h4
        have := h3.1; omega
    · rcases hk with hk | hk
      · exact .inr hk.1
      · exact .inl hk
  have hg := hf.split
  have hh := (hg.perm (List.Perm.swap _ _ _)).split
  have hi : St w0 M (mpc gc cm' :: mpc gs sm :: froz (fun k => w.heap.size ≤ k ∧ k < w'.heap.size) w' :: s2) w' := hh
  refine hi.perm ?_
  refine (List.Perm.trans ?_ (((q2 (mpc gs sm)).cons (mpc gc cm')).cons (froz (fun k => w.heap.size ≤ k ∧ k < w'.heap.size) w')))
  exact (List.Perm.cons _ (List.Perm.swap _ _ _)).trans (List.Perm.swap _ _ _)
end
section
variable {P : Program} {ops : Array Oper} {Q : Exit → Act → World → Prop} {a : Act} {w w0 : World} {M : Nat → Prop} {cs ds : List (Chunk w0 M)} {f : Chunk w0 M → List (Chunk w0 M)} {rest : List Oper} {d : Option Tmp} {tt ty t e : TypeId} {pos : String} {af : Array Edge} {x y : Operand}
/-- copy of numbers over a whole row of numbers -/
theorem st_copyI {bytes n c cp g : Nat} {ys zs : List Int} {B : Option Addr} {S : Nat → Prop} [hT : ElemC P t e 1 bytes] (hS : St w0 M cs w)
    (hx' : oval a x = some (.slice (some ⟨g, 0, none⟩) n cp)) (hy' : oval a y = some (.slice B n c)) [hp : PickR (.slice (some ⟨g, 0, none⟩) n cp) cs e 1 n (ints zs) f] (hr : RI S w B ys) (hl : ys.length = n)
    (k : ∀ w', St w0 M (f (row (.slice (some ⟨g, 0, none⟩) n cp) e 1 n (ints ys))) w' → wpList P ops Q rest (a.put d (goInt n)) w') :
    wpList P ops Q (⟨d, .call { callee := .builtin .copy, args := #[x, y], argTypes := #[t, t] }, tt, pos, af, none⟩ :: rest) a w := by
  have hS' : St w0 M (f (row (.slice (some ⟨g, 0, none⟩) n cp) e 1 n (ints zs))) w := hp.eq ▸ hS
  have ho : w.ownsRow 0 e 1 (.slice (some ⟨g, 0, none⟩) n cp) n (ints zs) := hS'.at_ hp.gap
  have hzl : (ints zs).length = n := by rw [ho.1]; omega
  refine wpList_copyRow hT.h rfl x y rfl (off := 0) ho (oval_eval hx') (oval_eval hy') (by simp [hl]) (by simp [hl]) (fun _ => rfl) hr (by simp [hl]) (oneCell_ints ys) ?_
  intro w' h1 h2 h3
  have e1 : over (ints zs) 0 (ints ys) = ints ys := by
    unfold over
    rw [List.take_zero, List.nil_append, List.drop_of_length_le (by rw [hzl]; simp [hl]), List.append_nil]
  rw [e1] at h1
  have e2 : (ints ys).length = n := by simp [hl]
  rw [e2]
  exact k w' (hS'.updG hp.gap (h2.mono (fun k hk => fun e => hk (by rw [e]; rfl))) h1 (fun k e => .inl e))
end
end Go.Proofs.Ytmjmdncdmmcmaaa

/- causal: the clock of a point, by recursion with a memory of clocks. Conditions: the pattern is good, the history lies in memory. -/
namespace Go.Proofs.Ytmjmdncdmmcmaaa
open Go.RowKit
set_option linter.unusedVariables false
set_option linter.unusedSimpArgs false

def ClkPost (p : Pat) (gs gc : Nat) (S : Nat → Prop) (w0 : World) (q : Nat) (k : Int) (e : Ending) (w' : World) : Prop :=
  ∃ (L : Option Addr) (cap : Nat) (c : List Int) (cm' : Int × Int → Option Value), e = .returned (.slice L p.len.length cap) ∧ IsClk p q k c ∧ RI (Orn S w0) w' L c ∧ capOk p.len.length cap ∧ MapAt w' gc cm' ∧ MapAt w' gs (srcM p.arcs) ∧ Memo p (Orn S w0) w' cm' ∧ Keep (fun b => ¬ (b = gc ∨ b = gs)) w0 w'
theorem St.intoS {w0 w : World} {M S : Nat → Prop} {cs : List (Chunk w0 M)} (h : St w0 M cs w) (hS : ∀ k, S k → ¬ M k) : Into S (Orn S w0) w0 w := fun k hs hk => ⟨.inl hs, h.keep.block k hk (hS k hs)⟩
theorem St.notIn {w0 w : World} {M : Nat → Prop} {cs : List (Chunk w0 M)} {f : Chunk w0 M → List (Chunk w0 M)} {c : Chunk w0 M} (h : St w0 M cs w) [hp : PickK c cs f] {g : Nat} {m : Int × Int → Option Value} (hq : mpc g m ∈ f nop) : ∀ b, c.own b → b ≠ g := by
  intro b hb e
  subst e
  have h' : St w0 M (f c) w := hp.eq ▸ h
  obtain ⟨s, h1, h2⟩ := gap_perm hp.gap c
  have hm : mpc b m ∈ s := by
    rcases List.mem_cons.1 ((h2 nop).mem_iff.2 hq) with h3 | h3
    · have := congrArg (fun c => c.own b) h3
      simp [mpc, nop] at this
    · exact h3
  exact (List.pairwise_cons.1 (h'.perm h1).apart).1 _ hm b hb rfl
theorem St.newH {w0 w : World} {gc gs : Nat} {cs : List (Chunk w0 (fun k => k = gc ∨ k = gs))} {f : Chunk w0 (fun k => k = gc ∨ k = gs) → List (Chunk w0 (fun k => k = gc ∨ k = gs))} {c : Chunk w0 (fun k => k = gc ∨ k = gs)} {cm sm : Int × Int → Option Value} (h : St w0 (fun k => k = gc ∨ k = gs) cs w) [hp : PickK c cs f] {f1 f2 : Chunk w0 (fun k => k = gc ∨ k = gs) → List (Chunk w0 (fun k => k = gc ∨ k = gs))} [hq1 : PickM gc (f nop) cm f1] [hq2 : PickM gs (f nop) sm f2] : ∀ b, c.own b → w0.heap.size ≤ b := by
  intro b hb
  have h' : St w0 (fun k => k = gc ∨ k = gs) (f c) w := hp.eq ▸ h
  obtain ⟨l, r, he⟩ := hp.gap.ex
  rw [he] at h'
  rcases h'.new c (by simp) b hb with h1 | h1 | h1
  · exact h1
  · exact absurd h1 (h.notIn (g := gc) (m := cm) (by rw [hq1.eq]; exact gap_mem hq1.gap) b hb)
  · exact absurd h1 (h.notIn (g := gs) (m := sm) (by rw [hq2.eq]; exact gap_mem hq2.gap) b hb)
theorem St.riH {w0 w : World} {gc gs : Nat} {S : Nat → Prop} {cs : List (Chunk w0 (fun k => k = gc ∨ k = gs))} {f : Chunk w0 (fun k => k = gc ∨ k = gs) → List (Chunk w0 (fun k => k = gc ∨ k = gs))} {cm sm : Int × Int → Option Value} {A : Option Addr} {k c n : Nat} {e : TypeId} {xs : List Int} (h : St w0 (fun k => k = gc ∨ k = gs) cs w) [hp : PickL A cs k c e 1 n (ints xs) f] {f1 f2 : Chunk w0 (fun k => k = gc ∨ k = gs) → List (Chunk w0 (fun k => k = gc ∨ k = gs))} [hq1 : PickM gc (f nop) cm f1] [hq2 : PickM gs (f nop) sm f2] : RI (Orn S w0) w A xs := by
  have hk : PickK (row (.slice A k c) e 1 n (ints xs) : Chunk w0 (fun k => k = gc ∨ k = gs)) cs f := ⟨hp.eq, hp.gap⟩
  have hnew := St.newH (hp := hk) (hq1 := hq1) (hq2 := hq2) h
  have h1 : RV (fun b => (Value.slice A k c).ownBlock = some b) w A (ints xs) := h.rvOwn (hp := hp)
  exact RV.sub h1 (fun b hb => .inr (hnew b hb))
/-- what was said of older data and of data that a call has made -/
theorem St.intoN {w0 w u : World} {M S N : Nat → Prop} {cs : List (Chunk w0 M)} {f : Chunk w0 M → List (Chunk w0 M)} (h : St w0 M cs w) [hp : PickK (froz N u) cs f] (hSl : ∀ b, S b → b < w0.heap.size) (hSM : ∀ b, S b → ¬ M b) (hK : Keep (fun k => ¬ M k) w0 u) : Into (fun b => S b ∨ N b) (fun b => S b ∨ N b) u w := by
  have hf := (hp.eq ▸ h : St w0 M (f (froz N u)) w).at_ hp.gap
  intro b hb hl
  refine ⟨hb, ?_⟩
  rcases hb with hb | hb
  · rw [h.keep.block b (hSl b hb) (hSM b hb), hK.block b (hSl b hb) (hSM b hb)]
  · exact (hf b hb).2
theorem srcF_none {az : List Arc} {q : Nat} {k : Int} (h : srcF az ((q : Int), k) = none) (hk : k ≠ 0) : ∀ a ∈ az, a.to = q → a.at_ ≠ k := by
  intro a ha e1 e2
  unfold srcF at h
  rw [Option.map_eq_none_iff, List.find?_eq_none] at h
  have := h a (by simpa using ha)
  apply this
  simp [e1, e2, hk]
theorem srcF_some {az : List Arc} {q : Nat} {k : Int} {s : Nat × Int} (h : srcF az ((q : Int), k) = some s) : ∃ a ∈ az, a.to = q ∧ a.at_ = k ∧ k ≠ 0 ∧ s = (a.fr, a.ix) := by
  unfold srcF at h
  rw [Option.map_eq_some_iff] at h
  obtain ⟨a, ha, hs⟩ := h
  have hm := List.mem_of_find?_eq_some ha
  have hp := List.find?_some ha
  simp only [Bool.and_eq_true, decide_eq_true_eq, Prod.mk.injEq] at hp
  exact ⟨a, by simpa using hm, by omega, hp.2.2, by rw [← hp.2.2]; exact hp.1, hs.symm⟩
theorem St.off {w0 w : World} {M : Nat → Prop} {cs : List (Chunk w0 M)} {f : Chunk w0 M → List (Chunk w0 M)} {c d : Chunk w0 M} (h : St w0 M cs w) [hp : PickK c cs f] (hq : d ∈ f nop) : ∀ b, c.own b → ¬ d.own b := by
  intro b hb hd
  have h' : St w0 M (f c) w := hp.eq ▸ h
  obtain ⟨s, h1, h2⟩ := gap_perm hp.gap c
  rcases List.mem_cons.1 ((h2 nop).mem_iff.2 hq) with h3 | h3
  · subst h3; exact hd
  · exact (List.pairwise_cons.1 (h'.perm h1).apart).1 _ h3 b hb hd
theorem St.offRow {w0 w : World} {M : Nat → Prop} {cs : List (Chunk w0 M)} {f f2 : Chunk w0 M → List (Chunk w0 M)} {c : Chunk w0 M} {g n m cp sz : Nat} {e : TypeId} {vs : List Value} (h : St w0 M cs w) [hp : PickK c cs f] [hq : PickG g (f nop) e sz n m cp vs f2] : ∀ b, c.own b → b ≠ g := by
  intro b hb e
  subst e
  exact h.off (d := row (.slice (some ⟨b, 0, none⟩) m cp) e sz n vs) (by rw [hq.eq]; exact gap_mem hq.gap) b hb rfl
/-- the same, of the data of two calls -/
theorem St.intoN2 {w0 w u1 u2 : World} {M S N1 N2 : Nat → Prop} {cs : List (Chunk w0 M)} {f f' : Chunk w0 M → List (Chunk w0 M)} (h : St w0 M cs w) [hp : PickK (froz N1 u1) cs f] [hp' : PickK (froz N2 u2) cs f'] (hF : ∀ b, N1 b → u2.heap[b]? = u1.heap[b]?) (hSl : ∀ b, S b → b < w0.heap.size) (hSM : ∀ b, S b → ¬ M b) (hK : Keep (fun k => ¬ M k) w0 u2) : Into (fun b => (S b ∨ N1 b) ∨ N2 b) (fun b => (S b ∨ N1 b) ∨ N2 b) u2 w := by
  have hf := (hp.eq ▸ h : St w0 M (f (froz N1 u1)) w).at_ hp.gap
  have hf' := (hp'.eq ▸ h : St w0 M (f' (froz N2 u2)) w).at_ hp'.gap
  intro b hb hl
  refine ⟨hb, ?_⟩
  rcases hb with (hb | hb) | hb
  · rw [h.keep.block b (hSl b hb) (hSM b hb), hK.block b (hSl b hb) (hSM b hb)]
  · exact (hf b hb).2.trans (hF b hb).symm
  · exact (hf' b hb).2
theorem St.frozAt {w0 w u : World} {M N : Nat → Prop} {cs : List (Chunk w0 M)} {f : Chunk w0 M → List (Chunk w0 M)} (h : St w0 M cs w) [hp : PickK (froz N u) cs f] : ∀ b, N b → w.heap[b]? = u.heap[b]? := fun b hb =>
  (((hp.eq ▸ h : St w0 M (f (froz N u)) w).at_ hp.gap) b hb).2
end Go.Proofs.Ytmjmdncdmmcmaaa

/- causal.Clock, causal.Past. Conditions: the pattern is good and lies in memory, the points are points of it. -/
namespace Go.Proofs.Ytmjmdncdmmcmaaa
open Go.RowKit
set_option linter.unusedVariables false
set_option linter.unusedSimpArgs false
set_option linter.unusedSectionVars false

/-- c is the least consistent cut that contains the points of l -/
structure IsPast (p : Pat) (l : List (Nat × Int)) (c : List Int) : Prop where
  v : validB p.len c = true
  s : consB p.arcs c = true
  h : ∀ a ∈ l, a.2 ≤ nth c a.1
  l : ∀ z, validB p.len z = true → consB p.arcs z = true → (∀ a ∈ l, a.2 ≤ nth z a.1) → Le p.len.length c z
theorem IsPast.len {p : Pat} {l : List (Nat × Int)} {c : List Int} (h : IsPast p l c) : c.length = p.len.length := (valid_iff.1 h.v).1
theorem IsPast.unique {p : Pat} {l : List (Nat × Int)} {c d : List Int} (h : IsPast p l c) (h' : IsPast p l d) : c = d :=
  le_antisymm h.len h'.len (h.l d h'.v h'.s h'.h) (h'.l c h.v h.s h.h)
theorem past_nil {p : Pat} (hg : Good p) : IsPast p [] (List.replicate p.len.length 0) :=
  ⟨valid_zero hg, cons_zero hg, by simp, fun z hz _ _ => fun k hk => by rw [nth_rep]; exact ((valid_iff.1 hz).2 k hk).1⟩
theorem past_snoc {p : Pat} (hg : Good p) {l : List (Nat × Int)} {c d : List Int} {q : Nat} {k : Int} (hl : ∀ a ∈ l, a.1 < p.len.length) (hq : q < p.len.length) (h : IsPast p l c) (h' : IsClk p q k d) : IsPast p (l ++ [(q, k)]) (List.zipWith max c d) := by
  have hj := join_good hg h.v h'.v h.s h'.s
  have hcd : c.length = d.length := by rw [h.len, h'.len]
  have hz : zipI max c d = List.zipWith max c d := by simp [zipI, hcd]
  rw [hz] at hj
  have hnj : ∀ r, r < p.len.length → nth (List.zipWith max c d) r = max (nth c r) (nth d r) := fun r hr => by rw [← hz]; exact zipI_nth hcd (by rw [h'.len]; exact hr)
  refine ⟨hj.1, hj.2.1, fun a ha => ?_, fun z hz' hc hp => fun r hr => ?_⟩
  · rcases List.mem_append.1 ha with ha | ha
    · have := h.h a ha
      rw [hnj _ (hl a ha)]; omega
    · simp only [List.mem_singleton] at ha
      subst ha
      have := h'.e
      simp only
      rw [hnj _ hq]; omega
  · rw [hnj r hr]
    have h1 := h.l z hz' hc (fun a ha => hp a (by simp [ha])) r hr
    have h2 := h'.l z hz' hc (hp (q, k) (by simp)) r hr
    omega
theorem reps_pts (w : World) : ∀ (l : List (Nat × Int)), Reps (repPt w) 2 (l.flatMap ptCells) l
  | [] => rfl
  | a :: l => ⟨ptCells a, l.flatMap ptCells, by simp, rfl, rfl, reps_pts w l⟩
section
variable {w0 w w' : World} {M : Nat → Prop} {cs : List (Chunk w0 M)} {f f1 f2 f3 : Chunk w0 M → List (Chunk w0 M)} {gh gs gc n c1 : Nat} {A1 : Option Addr} {sm cm : Int × Int → Option Value}
theorem St.frozOff {T : Nat → Prop} {u : World} (h : St w0 M cs w) [hp : PickK (froz T u) cs f] [hp2 : PickM gs (f nop) sm f2] [hp3 : PickM gc (f nop) cm f3] : ∀ b, T b → ¬ (b = gc ∨ b = gs) ∧ b < w.heap.size := fun b hb =>
  ⟨fun e => e.elim (fun e => h.off (c := froz T u) (d := mpc gc cm) (by rw [hp3.eq]; exact gap_mem hp3.gap) b hb e) (fun e => h.off (c := froz T u) (d := mpc gs sm) (by rw [hp2.eq]; exact gap_mem hp2.gap) b hb e), ((hp.eq ▸ h : St w0 M (f (froz T u)) w).at_ hp.gap b hb).1⟩
theorem St.ptRow {l : List (Nat × Int)} {t : TypeId} {g : Nat} {vs : List Value} (h : St w0 M cs w) [hp : PickB g cs vs t f] (hv : vs = l.flatMap ptCells) : RPt All w (some ⟨g, 0, none⟩) l := ⟨vs, h.blkRV, by rw [hv]; exact reps_pts w l⟩
end
end Go.Proofs.Ytmjmdncdmmcmaaa

