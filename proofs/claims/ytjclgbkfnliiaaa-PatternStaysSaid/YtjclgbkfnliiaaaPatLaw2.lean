/- Calls over patterns and cuts that lie in data. No condition. -/
import Derived.Test.YtjclgbkfnliiaaaPatLaw
import Derived.Test.YtjclgbkfnliiaaaRrestrict
import Derived.Test.YtjclgbkfnliiaaaTransit
namespace Go.Proofs.Ytjclgbkfnliiaaa
open Go.RowKit
set_option linter.unusedVariables false
set_option linter.unusedSimpArgs false
/-- a call makes data, beside what is data already -/
theorem St.grow2 {w0 w w' u : World} {M T : Nat → Prop} {cs : List (Chunk w0 M)} {f : Chunk w0 M → List (Chunk w0 M)} (h : St w0 M cs w) [hp : PickF cs T u f] (hx : Ext w w') :
    ∃ N : Nat → Prop, St w0 M (froz N w' :: cs) w' ∧ Into (Orn T w) (fun k => N k ∨ T k) w' w' ∧ Into T T u w' := by
  refine ⟨_, h.frozNew hx, fun k hk hl => ⟨?_, rfl⟩, fun k hk hl => ⟨hk, ?_⟩⟩
  · rcases hk with hk | hk
    · exact .inr hk
    · exact .inl ⟨hk, hl⟩
  · have h1 := (hp.eq ▸ h : St w0 M (f (froz T u)) w).at_ hp.gap k hk
    exact (hx.block k h1.1).trans h1.2
section
variable {w0 w u u' : World} {M T N : Nat → Prop} {cs : List (Chunk w0 M)} {f1 f2 : Chunk w0 M → List (Chunk w0 M)}
theorem St.both (h : St w0 M cs w) [hk : PickK (froz N u') cs f1] [hp : PickF (f1 nop) T u f2] : St w0 M (froz N u' :: f2 (froz T u)) w := by
  have h' : St w0 M (f1 (froz N u')) w := hk.eq ▸ h
  obtain ⟨s, h1, h2⟩ := gap_perm hk.gap (froz N u')
  have h3 : St w0 M (nop :: froz N u' :: s) w := (h'.perm h1).emp
  have h4 : St w0 M (froz N u' :: nop :: s) w := h3.perm (List.Perm.swap _ _ _)
  have h5 : St w0 M (froz N u' :: f1 nop) w := h4.perm ((h2 nop).cons _)
  rw [hp.eq] at h5
  exact h5
/-- what was said of data made by a call, beside older data, holds now -/
theorem St.intoBoth (h : St w0 M cs w) [hk : PickK (froz N u') cs f1] [hp : PickF (f1 nop) T u f2] (hi : Into T T u u') : Into (fun k => N k ∨ T k) (fun k => N k ∨ T k) u' w := by
  have hb := h.both (f1 := f1) (f2 := f2) (N := N) (u' := u') (T := T) (u := u)
  have hn := hb.head
  obtain ⟨l, r, he⟩ := hp.gap.ex
  have ht : (froz T u : Chunk w0 M).ok w := hb.all _ (by rw [he]; simp)
  intro k hk hl
  refine ⟨hk, ?_⟩
  rcases hk with hk | hk
  · exact (hn k hk).2
  · have h1 := ht k hk
    have hlt : k < u.heap.size := by
      have : u.heap[k]? = some w.heap[k] := h1.2.symm.trans (Array.getElem?_eq_getElem h1.1)
      exact lt_of_block this
    exact h1.2.trans ((hi k hk hlt).2).symm
theorem St.intoK (h : St w0 M cs w) [hk : PickK (froz T u) cs f1] : Into T T u w := fun k hk' _ => ⟨hk', ((hk.eq ▸ h : St w0 M (f1 (froz T u)) w).at_ hk.gap k hk').2⟩
theorem St.merge (h : St w0 M cs w) (N : Nat → Prop) (u' : World) [hk : PickK (froz N u') cs f1] [hp : PickF (f1 nop) T u f2] (hi : Into T T u u') : ∃ T1 : Nat → Prop, St w0 M (f2 (froz T1 w)) w ∧ Into T T1 u w ∧ Into (fun k => N k ∨ T k) T1 u' w := by
  have hb := h.both (f1 := f1) (f2 := f2) (N := N) (u' := u') (T := T) (u := u)
  have hin := h.intoBoth (f1 := f1) (f2 := f2) (N := N) (u' := u') (T := T) (u := u) hi
  have hpf : PickF (f2 (froz T u)) T u f2 := ⟨rfl, hp.gap⟩
  have hf := St.freeze (hp := hpf) hb
  refine ⟨_, hf, fun k hk hl => ⟨.inr hk, ?_⟩, fun k hk hl => ⟨hk, (hin k hk hl).2⟩⟩
  obtain ⟨l, r, he⟩ := hp.gap.ex
  exact (hb.all (froz T u) (by rw [he]; simp) k hk).2
end
theorem reduce_fits {p : Pat} (h : Good p) : Fits (reduce p) := by
  have hf := h.fits
  refine ⟨hf.l, hf.c, hf.r, ?_⟩
  have := List.length_filter_le (fun a : Arc => a.at_ != 0) p.arcs
  have := hf.a
  show (p.arcs.filter _).length ≤ 1000
  omega
section
variable {S T : Nat → Prop} {A1 A2 A3 X : Option Addr} {c1 c2 c3 n1 n2 n3 c n : Nat} {p : Pat} {xs : List Int} {w : World}
theorem restrict_n (e1 : p.len.length = n1) (e2 : p.ck.length = n2) (e3 : p.arcs.length = n3) (hn : xs.length = n) (hp : PatAt S w ⟨A1, c1, A2, c2, A3, c3⟩ p) (hg : Good p) (hx : RI T w X xs) (hv : validB p.len xs = true) :
    Calls Try.prog 39 #[.agg #[.slice A1 n1 c1, .slice A2 n2 c2, .slice A3 n3 c3], .slice X n c] w (RetP S w (restr p xs)) := by
  subst e1 e2 e3 hn; exact restrict_any ⟨A1, c1, A2, c2, A3, c3⟩ X c p xs w hp hg hx hv
theorem rrestrict_n (e1 : p.len.length = n1) (e2 : p.ck.length = n2) (e3 : p.arcs.length = n3) (hn : xs.length = n) (hp : PatAt S w ⟨A1, c1, A2, c2, A3, c3⟩ p) (hg : Good p) (hx : RI T w X xs) (hv : validB p.len xs = true) :
    Calls Try.prog 45 #[.agg #[.slice A1 n1 c1, .slice A2 n2 c2, .slice A3 n3 c3], .slice X n c] w (RetP S w (restr p xs)) := by
  subst e1 e2 e3 hn; exact rrestrict_any ⟨A1, c1, A2, c2, A3, c3⟩ X c p xs w hp hg hx hv
theorem transit_n (e1 : p.len.length = n1) (e2 : p.ck.length = n2) (e3 : p.arcs.length = n3) (hn : xs.length = n) (hp : PatAt S w ⟨A1, c1, A2, c2, A3, c3⟩ p) (hg : Good p) (hx : RI T w X xs) (hv : validB p.len xs = true) :
    Calls Try.prog 40 #[.agg #[.slice A1 n1 c1, .slice A2 n2 c2, .slice A3 n3 c3], .slice X n c] w (RetRow w 3 1 (idxs (transit xs) p.arcs p.arcs.length).length (ints (idxs (transit xs) p.arcs p.arcs.length))) := by
  subst e1 e2 e3 hn; exact transit_any ⟨A1, c1, A2, c2, A3, c3⟩ X c p xs w hp hg hx hv
theorem rtransit_n (e1 : p.len.length = n1) (e2 : p.ck.length = n2) (e3 : p.arcs.length = n3) (hn : xs.length = n) (hp : PatAt S w ⟨A1, c1, A2, c2, A3, c3⟩ p) (hg : Good p) (hx : RI T w X xs) (hv : validB p.len xs = true) :
    Calls Try.prog 46 #[.agg #[.slice A1 n1 c1, .slice A2 n2 c2, .slice A3 n3 c3], .slice X n c] w (RetRow w 3 1 (idxs (transit xs) p.arcs p.arcs.length).length (ints (idxs (transit xs) p.arcs p.arcs.length))) := by
  subst e1 e2 e3 hn; exact rtransit_any ⟨A1, c1, A2, c2, A3, c3⟩ X c p xs w hp hg hx hv
theorem reduce_n (e1 : p.len.length = n1) (e2 : p.ck.length = n2) (e3 : p.arcs.length = n3) (hp : PatAt S w ⟨A1, c1, A2, c2, A3, c3⟩ p) (hf : n3 ≤ 1000) :
    Calls Try.prog 47 #[.agg #[.slice A1 n1 c1, .slice A2 n2 c2, .slice A3 n3 c3]] w (RetP S w (reduce p)) := by
  subst e1 e2 e3; exact reduce_any ⟨A1, c1, A2, c2, A3, c3⟩ p w hp hf
theorem rreduce_n (e1 : p.len.length = n1) (e2 : p.ck.length = n2) (e3 : p.arcs.length = n3) (hp : PatAt S w ⟨A1, c1, A2, c2, A3, c3⟩ p) (hf : n3 ≤ 1000) :
    Calls Try.prog 48 #[.agg #[.slice A1 n1 c1, .slice A2 n2 c2, .slice A3 n3 c3]] w (RetP S w (reduce p)) := by
  subst e1 e2 e3; exact rreduce_any ⟨A1, c1, A2, c2, A3, c3⟩ p w hp hf
theorem check_n (e1 : p.len.length = n1) (e2 : p.ck.length = n2) (e3 : p.arcs.length = n3) (hp : PatAt S w ⟨A1, c1, A2, c2, A3, c3⟩ p) (hg : Good p) :
    Calls Try.prog 43 #[.agg #[.slice A1 n1 c1, .slice A2 n2 c2, .slice A3 n3 c3]] w fun e w' => e = .returned (.int .i64 0) ∧ Ext w w' := by
  subst e1 e2 e3; exact check_good ⟨A1, c1, A2, c2, A3, c3⟩ p w hp hg
theorem FC.into {T T' : Nat → Prop} {u u' : World} {b j : Nat} {v : Value} (h : FC T u b j v) (hi : Into T T' u u') : FC T' u' b j v := by
  have hl : b < u.heap.size := lt_of_cell (p := ⟨b, j, none⟩) h.c
  have h1 := hi b h.t hl
  exact ⟨h1.1, by rw [← h.c]; simp only [World.cell?, h1.2]⟩
theorem interval_n {ck : List (List Int)} {q : Nat} {z x : Int} (hn : ck.length = n2) (hz : z = q) (h2 : RR S w A2 ck) (hq : q < n2) (hck : n2 ≤ 5) (hl : (rowOf ck q).length ≤ 100) :
    Calls Try.prog 18 #[.agg #[.slice A1 n1 c1, .slice A2 n2 c2, .slice A3 n3 c3], .int .i64 z, .int .i64 x] w fun e w' => e = .returned (.int .i64 (below (rowOf ck q) x : Int)) ∧ Ext w w' := by
  subst hn hz
  rw [rowOf_eq hq] at *
  exact interval_any A1 A2 A3 c1 c2 c3 n1 n3 ck q x w h2 hq hck hl
theorem rinterval_n {ck : List (List Int)} {q : Nat} {z x : Int} (hn : ck.length = n2) (hz : z = q) (h2 : RR S w A2 ck) (hq : q < n2) (hck : n2 ≤ 5) (hl : (rowOf ck q).length ≤ 100) :
    Calls Try.prog 44 #[.agg #[.slice A1 n1 c1, .slice A2 n2 c2, .slice A3 n3 c3], .int .i64 z, .int .i64 x] w fun e w' => e = .returned (.int .i64 (below (rowOf ck q) x : Int)) ∧ Ext w w' := by
  subst hn hz
  rw [rowOf_eq hq] at *
  exact rinterval_any A1 A2 A3 c1 c2 c3 n1 n3 ck q x w h2 hq hck hl
end
end Go.Proofs.Ytjclgbkfnliiaaa
