/- causal: the state of a history during a call; copy; raise. Conditions: as said at each. -/
import Derived.Test.YtkflmichekpfbaaCausB
import Derived.Test.YtkflmichekpfbaaAppend
namespace Go.Proofs.Ytkflmichekpfbaa
open Go.RowKit
set_option linter.unusedVariables false
set_option linter.unusedSimpArgs false
set_option linter.unusedSectionVars false

/-- the clocks that are known already -/
def Memo (p : Pat) (S : Nat → Prop) (w : World) (cm : Int × Int → Option Value) : Prop :=
  ∀ pt v, cm pt = some v → ∃ (q : Nat) (k : Int) (L : Option Addr) (cap : Nat) (c : List Int), pt = ((q : Int), k) ∧ v = .slice L p.len.length cap ∧ IsClk p q k c ∧ RI S w L c ∧ capOk p.len.length cap
theorem Memo.into {p : Pat} {S S' : Nat → Prop} {w w' : World} {cm : Int × Int → Option Value} (h : Memo p S w cm) (hi : Into S S' w w') : Memo p S' w' cm := fun pt v hv => by
  obtain ⟨q, k, L, cap, c, h1, h2, h3, h4, h5⟩ := h pt v hv
  exact ⟨q, k, L, cap, c, h1, h2, h3, h4.into hi, h5⟩
theorem Memo.put {p : Pat} {S : Nat → Prop} {w : World} {cm : Int × Int → Option Value} (h : Memo p S w cm) {q : Nat} {k : Int} {L : Option Addr} {cap : Nat} {c : List Int} (hc : IsClk p q k c) (hr : RI S w L c) (hcap : capOk p.len.length cap) : Memo p S w (mput cm ((q : Int), k) (.slice L p.len.length cap)) := fun pt v hv => by
  unfold mput at hv
  split at hv
  · rename_i e
    injection hv with hv
    exact ⟨q, k, L, cap, c, e, hv.symm, hc, hr, hcap⟩
  · exact h pt v hv
theorem Memo.none (p : Pat) (S : Nat → Prop) (w : World) : Memo p S w (fun _ => Option.none) := fun pt v hv => by cases hv
section
variable {w0 w w' : World} {M : Nat → Prop} {cs : List (Chunk w0 M)} {f1 f2 : Chunk w0 M → List (Chunk w0 M)} {gs gc : Nat} {sm cm cm' : Int × Int → Option Value}
/-- the entry of a function that may write the two maps of a history -/
theorem St.startH {w : World} (h1 : MapAt w gc cm) (h2 : MapAt w gs sm) (hne : gs ≠ gc) : St w (fun k => k = gc ∨ k = gs) [mpc gc cm, mpc gs sm] w := by
  refine ⟨Keep.refl _ _, ?_, ?_, ?_⟩
  · intro c hc
    simp only [List.mem_cons, List.not_mem_nil, or_false] at hc
    rcases hc with rfl | rfl
    · exact h1
    · exact h2
  · intro c hc k hk
    simp only [List.mem_cons, List.not_mem_nil, or_false] at hc
    rcases hc with rfl | rfl
    · exact .inr (.inl hk)
    · exact .inr (.inr hk)
  · refine List.pairwise_cons.2 ⟨fun c hc k hk hk2 => ?_, by simp⟩
    rw [List.mem_singleton.1 hc] at hk2
    have e1 : k = gc := hk
    have e2 : k = gs := hk2
    exact hne (e2.symm.trans e1)
/-- a call that wrote a history's maps, and made data -/
theorem St.usedH (h : St w0 M cs w) [hp1 : PickM gc cs cm f1] [hp2 : PickM gs (f1 nop) sm f2] (hk : Keep (fun k => ¬ (k = gc ∨ k = gs)) w w') (h1 : MapAt w' gc cm') (h2 : MapAt w' gs sm) :
    St w0 M (froz (fun k => w.heap.size ≤ k ∧ k < w'.heap.size) w' :: mpc gc cm' :: f2 (mpc gs sm)) w' := by
  have ha : St w0 M (f1 (mpc gc cm)) w := hp1.eq ▸ h
  obtain ⟨s, p1, p2⟩ := gap_perm hp1.gap (mpc gc cm)
  have hb : St w0 M (nop :: mpc gc cm :: s) w := (ha.perm p1).emp
  have hc : St w0 M (mpc gc cm :: f1 nop) w := (hb.perm (List.Perm.swap _ _ _)).perm ((p2 nop).cons _)
  rw [hp2.eq] at hc
  obtain ⟨s2, q1, q2⟩ := gap_perm hp2.gap (mpc gs sm)
  have hd : St w0 M (mpc gc cm :: mpc gs sm :: s2) w := hc.perm (q1.cons _)
  have hap := List.pairwise_cons.1 hd.apart
  have hne : ∀ k, k = gc → ¬ k = gs := fun k => hap.1 (mpc gs sm) (by simp) k
  have he := hd.join
  have hlt1 : gc < w.heap.size := (mpc gc cm : Chunk w0 M).lt (hd.all _ (by simp)) rfl
  have hlt2 : gs < w.heap.size := (mpc gs sm : Chunk w0 M).lt (hd.all _ (by simp)) rfl
  have hf : St w0 M (pair (froz (fun k => w.heap.size ≤ k ∧ k < w'.heap.size) w') (pair (mpc gc cm') (mpc gs sm)) :: s2) w' := by
    refine he.upd hk ⟨fun k hk => ⟨hk.2, rfl⟩, ⟨h1, h2, hne⟩, fun k h3 h4 => ?_⟩ (fun k hk => ?_)
    · rcases h4 with h4 | h4
      · have : k = gc := h4
        have := h3.1; omega
      · have : k = gs := h4
        have := h3.1; omega
    · rcases hk with hk | hk
      · exact .inr hk.1
      · exact .inl hk
  have hg := hf.split
  have hh := (hg.perm (List.Perm.swap _ _ _)).split
  have hi : St w0 M (mpc gc cm' :: mpc gs sm :: froz (fun k => w.heap.size ≤ k ∧ k < w'.heap.size) w' :: s2) w' := hh
  refine hi.perm ?_
  refine (List.Perm.trans ?_ (((q2 (mpc gs sm)).cons (mpc gc cm')).cons (froz (fun k => w.heap.size ≤ k ∧ k < w'.heap.size) w')))
  exact (List.Perm.cons _ (List.Perm.swap _ _ _)).trans (List.Perm.swap _ _ _)
end
section
variable {P : Program} {ops : Array Oper} {Q : Exit → Act → World → Prop} {a : Act} {w w0 : World} {M : Nat → Prop} {cs ds : List (Chunk w0 M)} {f : Chunk w0 M → List (Chunk w0 M)} {rest : List Oper} {d : Option Tmp} {tt ty t e : TypeId} {pos : String} {af : Array Edge} {x y : Operand}
/-- copy of numbers over a whole row of numbers -/
theorem st_copyI {bytes n c cp g : Nat} {ys zs : List Int} {B : Option Addr} {S : Nat → Prop} [hT : ElemC P t e 1 bytes] (hS : St w0 M cs w)
    (hx' : oval a x = some (.slice (some ⟨g, 0, none⟩) n cp)) (hy' : oval a y = some (.slice B n c)) [hp : PickR (.slice (some ⟨g, 0, none⟩) n cp) cs e 1 n (ints zs) f] (hr : RI S w B ys) (hl : ys.length = n)
    (k : ∀ w', St w0 M (f (row (.slice (some ⟨g, 0, none⟩) n cp) e 1 n (ints ys))) w' → wpList P ops Q rest (a.put d (goInt n)) w') :
    wpList P ops Q (⟨d, .call { callee := .builtin .copy, args := #[x, y], argTypes := #[t, t] }, tt, pos, af, none⟩ :: rest) a w := by
  have hS' : St w0 M (f (row (.slice (some ⟨g, 0, none⟩) n cp) e 1 n (ints zs))) w := hp.eq ▸ hS
  have ho : w.ownsRow 0 e 1 (.slice (some ⟨g, 0, none⟩) n cp) n (ints zs) := hS'.at_ hp.gap
  have hzl : (ints zs).length = n := by rw [ho.1]; omega
  refine wpList_copyRow hT.h rfl x y rfl (off := 0) ho (oval_eval hx') (oval_eval hy') (by simp [hl]) (by simp [hl]) (fun _ => rfl) hr (by simp [hl]) (oneCell_ints ys) ?_
  intro w' h1 h2 h3
  have e1 : over (ints zs) 0 (ints ys) = ints ys := by
    unfold over
    rw [List.take_zero, List.nil_append, List.drop_of_length_le (by rw [hzl]; simp [hl]), List.append_nil]
  rw [e1] at h1
  have e2 : (ints ys).length = n := by simp [hl]
  rw [e2]
  exact k w' (hS'.updG hp.gap (h2.mono (fun k hk => fun e => hk (by rw [e]; rfl))) h1 (fun k e => .inl e))
end
end Go.Proofs.Ytkflmichekpfbaa
