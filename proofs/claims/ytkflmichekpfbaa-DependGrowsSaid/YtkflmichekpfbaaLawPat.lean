/- How a law begins: choices, a pattern, a cut; small facts. No condition. -/
import Derived.Test.YtkflmichekpfbaaMakePat
import Derived.Test.YtkflmichekpfbaaCutE
import Derived.Test.YtkflmichekpfbaaInts
import Derived.Test.YtkflmichekpfbaaLaw
namespace Go.Proofs.Ytkflmichekpfbaa
open Go.RowKit
set_option linter.unusedVariables false
set_option linter.unusedSimpArgs false
set_option linter.unusedSectionVars false

section
variable {w0 w : World} {M : Nat → Prop} {cs : List (Chunk w0 M)} {f : Chunk w0 M → List (Chunk w0 M)}
theorem pattern_st {g m : Nat} {z : Int} {κ : CK} {r : List Int} (h : St w0 M cs w) [hp : PickC g cs κ r f] (hz : z = m) (hm : m ≤ 24) :
    Calls Try.prog 17 #[.pointer (some ⟨g, 0, none⟩), .int .i64 z] w fun e w' => ∃ v p r' T, e = .returned (v.val p) ∧ Small p m ∧ PatAt T w' v p ∧ St w0 M (froz T w' :: f (cds g κ r')) w' := by
  subst hz
  refine (pattern_any g κ r m w (h.codes (g := g) (κ := κ) (r := r) (f := f)) hm).mono ?_
  rintro e w' ⟨v, p, r', rfl, hs, hpa, hc, hk⟩
  exact ⟨v, p, r', fun k => w.heap.size ≤ k ∧ k < w'.heap.size, rfl, hs, hpa.into (Into.subLt w' (fun k hk hl => ⟨hk, hl⟩)), h.usedAdd (r := r) hc hk (d := froz (fun k => w.heap.size ≤ k ∧ k < w'.heap.size) w') (fun k hk => ⟨hk.2, rfl⟩) (fun k hk => hk.1)⟩
theorem St.frozNe {g : Nat} {κ : CK} {r : List Int} {T : Nat → Prop} {u : World} (h : St w0 M cs w) [hp : PickF cs T u f] [hq : MemC (cds g κ r) (f nop)] : ∀ k, T k → k ≠ g := by
  intro k hk e
  subst e
  have h' : St w0 M (f (froz T u)) w := hp.eq ▸ h
  obtain ⟨s, h1, h2⟩ := gap_perm hp.gap (froz T u)
  have hm : cds k κ r ∈ s := by
    rcases List.mem_cons.1 ((h2 nop).mem_iff.2 hq.h) with h3 | h3
    · have := congrArg (fun c => c.own k) h3
      simp [cds, nop] at this
    · exact h3
  exact (List.pairwise_cons.1 (h'.perm h1).apart).1 _ hm k hk rfl
theorem cut_st {S : Nat → Prop} {g : Nat} {κ : CK} {r len : List Int} {A1 A2 A3 : Option Addr} {c1 c2 c3 n1 n2 n3 : Nat} (h : St w0 M cs w) [hp : PickC g cs κ r f] (hn1 : len.length = n1) (h1 : RI S w A1 len) (hS : ∀ k, S k → k ≠ g) (hn : len.length ≤ 5) (hm : ∀ m ∈ len, 0 ≤ m ∧ m ≤ 64) :
    Calls Try.prog 29 #[.pointer (some ⟨g, 0, none⟩), .agg #[.slice A1 n1 c1, .slice A2 n2 c2, .slice A3 n3 c3]] w fun e w' => ∃ L c r', e = .returned (.slice L n1 c) ∧ St w0 M (row (.slice L n1 c) 3 1 n1 (ints (cutL r len)) :: f (cds g κ r')) w' := by
  subst hn1
  refine (cut_any A1 A2 A3 c1 c2 c3 n2 n3 g κ r len w (h.codes (g := g) (κ := κ) (r := r) (f := f)) h1 hS hn hm).mono ?_
  rintro e w' ⟨L, c, rfl, ho, hc, hk⟩
  exact ⟨L, c, _, rfl, h.usedAdd (r := r) hc hk (d := row (.slice L len.length c) 3 1 len.length (ints (cutL r len))) (own_base ho (Nat.zero_le _)) (fun k e => own_block ho k e)⟩
end
theorem cutL_length : ∀ (len r : List Int), (cutL r len).length = len.length
  | [], _ => rfl
  | m :: l, r => by simp [cutL, cutL_length l r.tail]
theorem cutL_valid : ∀ (len r : List Int), (∀ m ∈ len, 0 ≤ m) → ∀ k, k < len.length → 0 ≤ nth (cutL r len) k ∧ nth (cutL r len) k ≤ nth len k
  | [], _, _, k, hk => by simp at hk
  | m :: l, r, h, 0, _ => by
    have h0 := h m (by simp)
    have := nxt_lt r (n := m.toNat + 1) (by omega)
    simp [cutL, nth]; omega
  | m :: l, r, h, k + 1, hk => by
    have := cutL_valid l r.tail (fun m hm => h m (by simp [hm])) k (by simpa using hk)
    simpa [cutL, nth] using this
theorem Good.all {p : Pat} (h : Good p) : ∀ m ∈ p.len, 0 ≤ m ∧ m ≤ 64 := fun m hm => by
  obtain ⟨i, hi, rfl⟩ := List.getElem_of_mem hm
  have h1 := h.lo i hi
  have h2 := h.hi i hi
  rw [nth_eq hi] at h1 h2
  exact ⟨h1, h2⟩
theorem cut_valid {p : Pat} (h : Good p) (r : List Int) : validB p.len (cutL r p.len) = true := valid_iff.2 ⟨cutL_length _ _, cutL_valid _ _ (fun m hm => (h.all m hm).1)⟩
theorem sameInts_z {S T : Nat → Prop} {A B : Option Addr} {c d n m : Nat} {xs ys : List Int} {w : World} (hn : xs.length = n) (hm : ys.length = m) (ha : RI S w A xs) (hb : RI T w B ys) (hx : n ≤ 1000000) (hy : m ≤ 1000000) :
    Calls Try.prog 19 #[.slice A n c, .slice B m d] w fun e w' => e = .returned (.bool (decide (xs = ys))) ∧ Ext w w' := by
  subst hn hm
  refine (sameInts_any A B c d xs ys w ha hb (by omega) (by omega)).mono ?_
  rintro e w' ⟨rfl, n, rfl⟩
  exact ⟨rfl, (Ext.refl' w).drewN' n⟩
section
variable {S T : Nat → Prop} {A1 A2 A3 X Y : Option Addr} {c1 c2 c3 c d n1 n2 n3 n m : Nat} {p : Pat} {xs ys len : List Int} {w : World}
theorem valid_n (e1 : len.length = n1) (hn : xs.length = n) (h1 : RI S w A1 len) (hx : RI T w X xs) (hl : n1 ≤ 5) (hxl : n ≤ 9223372036854775807) :
    Calls Try.prog 57 #[.agg #[.slice A1 n1 c1, .slice A2 n2 c2, .slice A3 n3 c3], .slice X n c] w fun e w' => e = .returned (.bool (validB len xs)) ∧ Ext w w' := by
  subst e1 hn; exact valid_any A1 A2 A3 X c1 c2 c3 c n2 n3 len xs w h1 hx hl hxl
theorem rvalid_n (e1 : len.length = n1) (hn : xs.length = n) (h1 : RI S w A1 len) (hx : RI T w X xs) (hl : n1 ≤ 5) (hxl : n ≤ 9223372036854775807) :
    Calls Try.prog 26 #[.agg #[.slice A1 n1 c1, .slice A2 n2 c2, .slice A3 n3 c3], .slice X n c] w fun e w' => e = .returned (.bool (validB len xs)) ∧ Ext w w' := by
  subst e1 hn; exact rvalid_any A1 A2 A3 X c1 c2 c3 c n2 n3 len xs w h1 hx hl hxl
theorem orphans_nn (e1 : p.len.length = n1) (e2 : p.ck.length = n2) (e3 : p.arcs.length = n3) (hp : PatAt S w ⟨A1, c1, A2, c2, A3, c3⟩ p) (hg : Good p) (hx : RI T w X xs) (hv : validB p.len xs = true) :
    Calls Try.prog 82 #[.agg #[.slice A1 n1 c1, .slice A2 n2 c2, .slice A3 n3 c3], .slice X n1 c] w (RetRow w 3 1 (idxs (orph · xs) p.arcs p.arcs.length).length (ints (idxs (orph · xs) p.arcs p.arcs.length))) := by
  subst e1 e2 e3
  have := orphans_any ⟨A1, c1, A2, c2, A3, c3⟩ X c p xs w hp hg hx hv
  rw [(valid_iff.1 hv).1] at this
  exact this
theorem consistent_n (e1 : p.len.length = n1) (e2 : p.ck.length = n2) (e3 : p.arcs.length = n3) (hp : PatAt S w ⟨A1, c1, A2, c2, A3, c3⟩ p) (hg : Good p) (hx : RI T w X xs) (hv : validB p.len xs = true) :
    Calls Try.prog 58 #[.agg #[.slice A1 n1 c1, .slice A2 n2 c2, .slice A3 n3 c3], .slice X n1 c] w fun e w' => e = .returned (.bool (consB p.arcs xs)) ∧ Ext w w' := by
  subst e1 e2 e3
  have := consistent_any ⟨A1, c1, A2, c2, A3, c3⟩ X c p xs w hp hg hx hv
  rw [(valid_iff.1 hv).1] at this
  exact this
theorem rconsistent_n (e1 : p.len.length = n1) (e3 : p.arcs.length = n3) (hp : PatAt S w ⟨A1, c1, A2, c2, A3, c3⟩ p) (hg : Good p) (hx : RI T w X xs) (hv : validB p.len xs = true) :
    Calls Try.prog 27 #[.agg #[.slice A1 n1 c1, .slice A2 n2 c2, .slice A3 n3 c3], .slice X n1 c] w fun e w' => e = .returned (.bool (consB p.arcs xs)) ∧ Ext w w' := by
  subst e1 e3
  have hxl := (valid_iff.1 hv).1
  have := rconsistent_any A1 A2 A3 X c1 c2 c3 c p.len.length n2 p.arcs xs w hx hp.arcs (hg.arcs_in hxl) (by have := hg.few; omega)
  rw [hxl] at this
  exact this
theorem most_n (hn : xs.length = n) (hm : ys.length = m) (hx : RI S w X xs) (hy : RI T w Y ys) (hxl : n ≤ 9223372036854775807) (hyl : m ≤ 9223372036854775807) :
    Calls Try.prog 54 #[.slice X n c, .slice Y m d] w fun e w' => e = .returned (.bool (mostB xs ys)) ∧ Ext w w' := by
  subst hn hm; exact most_any X Y c d xs ys w hx hy hxl hyl
theorem rmost_n (hn : xs.length = n) (hm : ys.length = m) (hx : RI S w X xs) (hy : RI T w Y ys) (hxl : n ≤ 9223372036854775807) (hyl : m ≤ 9223372036854775807) :
    Calls Try.prog 30 #[.slice X n c, .slice Y m d] w fun e w' => e = .returned (.bool (mostB xs ys)) ∧ Ext w w' := by
  subst hn hm; exact rmost_any X Y c d xs ys w hx hy hxl hyl
theorem join_n (hn : xs.length = n) (hm : ys.length = m) (hx : RI S w X xs) (hy : RI T w Y ys) (hxl : n ≤ 17592186044415) (hyl : m ≤ 9223372036854775807) :
    Calls Try.prog 52 #[.slice X n c, .slice Y m d] w (RetRow w 3 1 (zipI max xs ys).length (ints (zipI max xs ys))) := by
  subst hn hm; exact join_any X Y c d xs ys w hx hy hxl hyl
end
theorem lower_n {S T : Nat → Prop} {A1 A2 A3 X : Option Addr} {c1 c2 c3 c n1 n2 n3 : Nat} {p : Pat} {xs : List Int} {w : World} (e1 : p.len.length = n1) (e2 : p.ck.length = n2) (e3 : p.arcs.length = n3) (hp : PatAt S w ⟨A1, c1, A2, c2, A3, c3⟩ p) (hg : Good p) (hx : RI T w X xs) (hv : validB p.len xs = true) :
    Calls Try.prog 81 #[.agg #[.slice A1 n1 c1, .slice A2 n2 c2, .slice A3 n3 c3], .slice X n1 c] w fun e w' => ∃ y L k, Fin lowStep p.arcs xs y ∧ y.length = n1 ∧ e = .returned (.slice L n1 k) ∧ w'.ownsRow w.heap.size 3 1 (.slice L n1 k) n1 (ints y) ∧ Ext w w' := by
  subst e1 e2 e3
  have hxl := (valid_iff.1 hv).1
  have := lower_any ⟨A1, c1, A2, c2, A3, c3⟩ X c p xs w hp hg hx hv
  rw [hxl] at this
  refine this.mono ?_
  rintro e w' ⟨y, hf, hl, L, k, rfl, ho, hx⟩
  rw [hl, hxl] at ho
  rw [hl, hxl]
  exact ⟨y, L, k, hf, hl.trans hxl, rfl, ho, hx⟩
theorem raise_n {S T : Nat → Prop} {A1 A2 A3 X : Option Addr} {c1 c2 c3 c n1 n2 n3 : Nat} {p : Pat} {xs : List Int} {w : World} (e1 : p.len.length = n1) (e2 : p.ck.length = n2) (e3 : p.arcs.length = n3) (hp : PatAt S w ⟨A1, c1, A2, c2, A3, c3⟩ p) (hg : Good p) (hx : RI T w X xs) (hv : validB p.len xs = true) :
    Calls Try.prog 56 #[.agg #[.slice A1 n1 c1, .slice A2 n2 c2, .slice A3 n3 c3], .slice X n1 c] w fun e w' => ∃ y L k, Fin raiStep p.arcs xs y ∧ y.length = n1 ∧ e = .returned (.slice L n1 k) ∧ w'.ownsRow w.heap.size 3 1 (.slice L n1 k) n1 (ints y) ∧ Ext w w' := by
  subst e1 e2 e3
  have hxl := (valid_iff.1 hv).1
  have := raise_any ⟨A1, c1, A2, c2, A3, c3⟩ X c p xs w hp hg hx hv
  rw [hxl] at this
  refine this.mono ?_
  rintro e w' ⟨y, hf, hl, L, k, rfl, ho, hx⟩
  rw [hl, hxl] at ho
  rw [hl, hxl]
  exact ⟨y, L, k, hf, hl.trans hxl, rfl, ho, hx⟩
theorem rlower_n {S T : Nat → Prop} {A1 A2 A3 X : Option Addr} {c1 c2 c3 c n1 n2 n3 : Nat} {p : Pat} {xs : List Int} {w : World} (e1 : p.len.length = n1) (e2 : p.ck.length = n2) (e3 : p.arcs.length = n3) (hp : PatAt S w ⟨A1, c1, A2, c2, A3, c3⟩ p) (hg : Good p) (hx : RI T w X xs) (hv : validB p.len xs = true) :
    Calls Try.prog 28 #[.agg #[.slice A1 n1 c1, .slice A2 n2 c2, .slice A3 n3 c3], .slice X n1 c] w fun e w' => ∃ y L k, Fin lowStep p.arcs xs y ∧ y.length = n1 ∧ e = .returned (.slice L n1 k) ∧ w'.ownsRow w.heap.size 3 1 (.slice L n1 k) n1 (ints y) ∧ Ext w w' := by
  subst e1 e2 e3
  have hxl := (valid_iff.1 hv).1
  have := rlower_any ⟨A1, c1, A2, c2, A3, c3⟩ X c p xs w hp hg hx hv
  rw [hxl] at this
  refine this.mono ?_
  rintro e w' ⟨y, hf, hl, L, k, rfl, ho, hx⟩
  rw [hl, hxl] at ho
  rw [hl, hxl]
  exact ⟨y, L, k, hf, hl.trans hxl, rfl, ho, hx⟩
end Go.Proofs.Ytkflmichekpfbaa
