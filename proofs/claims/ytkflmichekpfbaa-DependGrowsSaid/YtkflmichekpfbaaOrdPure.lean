/- The search finds no circle in a good pattern. No condition. -/
import Derived.Test.YtkflmichekpfbaaOrdered
namespace Go.Proofs.Ytkflmichekpfbaa
set_option linter.unusedVariables false

/-- one more than the message that each event received, after k messages -/
def recvTo (az : List Arc) : Nat → List Int
  | 0 => zeros
  | k + 1 => if (arcOf az k).at_ = 0 then recvTo az k else (recvTo az k).set (gi (arcOf az k).to (arcOf az k).at_.toNat) ((k : Int) + 1)
theorem recvTo_length (az : List Arc) (k : Nat) : (recvTo az k).length = 325 := by
  induction k with
  | zero => exact zeros_length
  | succ k ih => rw [recvTo]; split <;> simp [ih]
theorem nth_zeros (j : Nat) : nth zeros j = 0 := by
  simp only [nth, zeros, List.getD_eq_getElem?_getD, List.getElem?_replicate]; split <;> rfl
theorem recvTo_spec (az : List Arc) (k j : Nat) (h : nth (recvTo az k) j ≠ 0) : ∃ i, i < k ∧ nth (recvTo az k) j = (i : Int) + 1 ∧ (arcOf az i).at_ ≠ 0 ∧ gi (arcOf az i).to (arcOf az i).at_.toNat = j := by
  induction k with
  | zero => exact absurd (nth_zeros j) h
  | succ k ih =>
    rw [recvTo] at h ⊢
    by_cases h0 : (arcOf az k).at_ = 0
    · rw [if_pos h0] at h ⊢
      obtain ⟨i, h1, h2, h3⟩ := ih h
      exact ⟨i, by omega, h2, h3⟩
    · rw [if_neg h0] at h ⊢
      by_cases e : gi (arcOf az k).to (arcOf az k).at_.toNat = j
      · by_cases hl : j < 325
        · refine ⟨k, by omega, ?_, h0, e⟩
          rw [e, nth_set_same (by rw [recvTo_length]; exact hl)]
        · exfalso; apply h
          rw [nth, List.getD_eq_getElem?_getD, List.getElem?_eq_none (by rw [List.length_set, recvTo_length]; omega)]; rfl
      · rw [nth_set_other e] at h ⊢
        obtain ⟨i, h1, h2, h3⟩ := ih h
        exact ⟨i, by omega, h2, h3⟩
theorem recvTo_bd (az : List Arc) (k j : Nat) : 0 ≤ nth (recvTo az k) j ∧ nth (recvTo az k) j ≤ k := by
  by_cases h : nth (recvTo az k) j = 0
  · omega
  · obtain ⟨i, h1, h2, _⟩ := recvTo_spec az k j h; omega
theorem gi_inj {q k r j : Nat} (hk : k ≤ 64) (hj : j ≤ 64) (h : gi q k = gi r j) : q = r ∧ k = j := by unfold gi at h; omega
/-- a pattern whose events lie in the grid, and of which none received two messages -/
structure Fair (p : Pat) : Prop where
  n5 : p.len.length ≤ 5
  lo : ∀ q, q < p.len.length → 0 ≤ nth p.len q
  hi : ∀ q, q < p.len.length → nth p.len q ≤ 64
  arc : ∀ a ∈ p.arcs, ArcOk p.len.length p.len a
  uniq : ∀ i j (hi : i < p.arcs.length) (hj : j < p.arcs.length), i < j → p.arcs[i].to = p.arcs[j].to → p.arcs[i].at_ = p.arcs[j].at_ → p.arcs[i].at_ = 0
theorem Good.fair {p : Pat} (h : Good p) : Fair p := ⟨h.n5, h.lo, h.hi, h.arc, h.uniq⟩
theorem Fair.arcb {p : Pat} (h : Fair p) {a : Arc} (ha : a ∈ p.arcs) : a.fr < 5 ∧ a.to < 5 ∧ 0 ≤ a.ix ∧ a.ix ≤ 64 ∧ 0 ≤ a.at_ ∧ a.at_ ≤ 64 := by
  have ho := h.arc a ha
  have := h.n5
  have h1 := h.hi _ ho.fr
  have h2 := h.hi _ ho.to
  have := ho.fr; have := ho.to; have := ho.ix0; have := ho.ix1; have := ho.at0; have := ho.at1
  omega
/-- before its turn, a message finds its place free -/
theorem Fair.free {p : Pat} (h : Fair p) {k : Nat} (hk : k < p.arcs.length) (h0 : (arcOf p.arcs k).at_ ≠ 0) : nth (recvTo p.arcs k) (gi (arcOf p.arcs k).to (arcOf p.arcs k).at_.toNat) = 0 := by
  apply Classical.byContradiction
  intro hne
  obtain ⟨i, h1, _, h3, h4⟩ := recvTo_spec _ _ _ hne
  have hi : i < p.arcs.length := by omega
  have b1 := h.arcb (arcOf_mem hi)
  have b2 := h.arcb (arcOf_mem hk)
  obtain ⟨e1, e2⟩ := gi_inj (by omega) (by omega) h4
  rw [arcOf_eq hi] at *
  rw [arcOf_eq hk] at *
  exact h3 (h.uniq i k hi hk h1 e1 (by omega))

/-- no new mark 1 -/
def Less (m m' : List Int) : Prop := m'.length = 325 ∧ ∀ j, nth m' j = nth m j ∨ nth m' j = 2
theorem Less.one {m m' : List Int} (h : Less m m') {j : Nat} (h1 : nth m' j = 1) : nth m j = 1 := by
  rcases h.2 j with e | e
  · rw [← e]; exact h1
  · omega
theorem vis_good {p : Pat} (h : Fair p) {rk : Nat → Int → Nat} (hr : Ranked p.len.length p.len p.arcs rk) (f : Nat) : ∀ (q k : Nat) (m : List Int), q < p.len.length → (k : Int) ≤ nth p.len q → m.length = 325 → rk q k < f →
    (∀ r (j : Nat), r < p.len.length → (j : Int) ≤ nth p.len r → nth m (gi r j) = 1 → rk q k < rk r j) → ∃ m', visF (recvTo p.arcs p.arcs.length) p.arcs f q k m = some (true, m') ∧ Less m m' := by
  induction f with
  | zero => intro q k m _ _ _ h0; omega
  | succ f ih =>
    intro q k m hq hk hm hf hone
    have hq5 := h.n5
    have hk64 := h.hi q hq
    have hgl : gi q k < 325 := by unfold gi; omega
    rw [visF]
    by_cases h0 : k = 0 ∨ nth m (gi q k) = 2
    · rw [if_pos h0]; exact ⟨m, rfl, hm, fun j => .inl rfl⟩
    rw [if_neg h0]
    have h1 : nth m (gi q k) ≠ 1 := fun e => by have := hone q k hq hk e; omega
    rw [if_neg h1]
    have hk0 : k ≠ 0 := fun e => h0 (.inl e)
    have hrk : rk q ((k - 1 : Nat) : Int) < rk q k := by
      have := hr.1 q hq ((k - 1 : Nat) : Int) (by omega) (by omega)
      rwa [show ((k - 1 : Nat) : Int) + 1 = (k : Int) by omega] at this
    have hset : ∀ j, nth (m.set (gi q k) 1) j = if gi q k = j then 1 else nth m j := fun j => nth_set (by omega) 1
    obtain ⟨m1, e1, l1, s1⟩ := ih q (k - 1) (m.set (gi q k) 1) hq (by omega) (by simp [hm]) (by omega) (fun r j hr' hj h1' => by
      rw [hset] at h1'
      by_cases e : gi q k = gi r j
      · have := h.hi r hr'
        obtain ⟨rfl, rfl⟩ := gi_inj (by omega) (by omega) e
        exact hrk
      · rw [if_neg e] at h1'
        have := hone r j hr' hj h1'
        omega)
    rw [e1]
    dsimp only
    have hfin : ∀ m2, Less m1 m2 → Less m (m2.set (gi q k) 2) := by
      rintro m2 ⟨l2, s2⟩
      refine ⟨by simp [l2], fun j => ?_⟩
      rw [nth_set (by omega)]
      by_cases e : gi q k = j
      · rw [if_pos e]; exact .inr rfl
      · rw [if_neg e]
        rcases s2 j with e2 | e2
        · rcases s1 j with e3 | e3
          · rw [hset, if_neg e] at e3; exact .inl (e2.trans e3)
          · exact .inr (e2.trans e3)
        · exact .inr e2
    by_cases hp : 0 < nth (recvTo p.arcs p.arcs.length) (gi q k)
    · rw [if_pos hp]
      obtain ⟨i, hi, e2, hat, hg⟩ := recvTo_spec _ _ _ (show nth (recvTo p.arcs p.arcs.length) (gi q k) ≠ 0 by omega)
      rw [e2, show ((i : Int) + 1 - 1).toNat = i by omega]
      have ha := arcOf_mem hi
      generalize arcOf p.arcs i = a at *
      have hb := h.arcb ha
      have ho := h.arc a ha
      have i0 := ho.ix0
      have i1 := ho.ix1
      obtain ⟨et, ek⟩ := gi_inj (by omega) (by omega) hg
      have hlt := hr.2 a ha hat
      rw [et, show a.at_ = (k : Int) by omega] at hlt
      have hix : ((a.ix.toNat : Nat) : Int) = a.ix := Int.toNat_of_nonneg i0
      obtain ⟨m2, e3, l2⟩ := ih a.fr a.ix.toNat m1 ho.fr (by omega) l1 (by rw [hix]; omega) (fun r j hr' hj h1' => by
        rw [hix]
        have h2' : nth (m.set (gi q k) 1) (gi r j) = 1 := Less.one ⟨l1, s1⟩ h1'
        rw [hset] at h2'
        by_cases e : gi q k = gi r j
        · have := h.hi r hr'
          obtain ⟨rfl, rfl⟩ := gi_inj (by omega) (by omega) e
          exact hlt
        · rw [if_neg e] at h2'
          have := hone r j hr' hj h2'
          omega)
      rw [e3]
      exact ⟨_, rfl, hfin m2 l2⟩
    · rw [if_neg hp]
      exact ⟨_, rfl, hfin m1 ⟨l1, fun j => .inl rfl⟩⟩

theorem ord_good {p : Pat} (h : Fair p) {rk : Nat → Int → Nat} (hr : Ranked p.len.length p.len p.arcs rk) {N : Nat} (hN : ∀ q, q < p.len.length → ∀ k : Int, 0 ≤ k → k ≤ nth p.len q → rk q k ≤ N) :
    ∀ (l : List Int) (q : Nat) (m : List Int), l = p.len.drop q → m.length = 325 → (∀ j, nth m j ≠ 1) → ordF (recvTo p.arcs p.arcs.length) p.arcs (N + 1) l q m = some true
  | [], q, m, _, _, _ => rfl
  | n :: l, q, m, hl, hm, h1 => by
    have hq : q < p.len.length := by
      apply Classical.byContradiction; intro hn
      rw [List.drop_eq_nil_of_le (by omega)] at hl; cases hl
    rw [List.drop_eq_getElem_cons hq, ← nth_eq hq] at hl
    injection hl with e1 e2
    have h0 := h.lo q hq
    subst e1
    have hc : (((nth p.len q).toNat : Nat) : Int) = nth p.len q := Int.toNat_of_nonneg h0
    obtain ⟨m', e, l', s'⟩ := vis_good h hr (N + 1) q (nth p.len q).toNat m hq (by omega) hm (by have := hN q hq _ h0 (Int.le_refl _); rw [hc]; omega) (fun r j _ _ e => absurd e (h1 _))
    rw [ordF, e]
    exact ord_good h hr hN l (q + 1) m' e2 l' (fun j e => by
      rcases s' j with e3 | e3
      · exact h1 j (e3 ▸ e)
      · omega)
theorem Good.ordF {p : Pat} (h : Good p) : ∃ f, ordF (recvTo p.arcs p.arcs.length) p.arcs f p.len 0 zeros = some true := by
  obtain ⟨rk, N, h1, h2⟩ := h.rank
  exact ⟨N + 1, ord_good h.fair h1 h2 _ 0 zeros rfl zeros_length (fun j e => by rw [nth_zeros] at e; omega)⟩
end Go.Proofs.Ytkflmichekpfbaa
