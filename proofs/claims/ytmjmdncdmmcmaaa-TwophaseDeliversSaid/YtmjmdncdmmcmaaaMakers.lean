/- A region that draws, with many operations that each make a piece of memory, in whatever order. No condition. -/
import Derived.Test.YtmjmdncdmmcmaaaGc
namespace Go.Proofs.Ytmjmdncdmmcmaaa
open Go.RowKit
set_option linter.unusedVariables false
set_option linter.unusedSimpArgs false
set_option linter.unusedSectionVars false

/-- an operation that makes a piece: its number, where its value goes, the piece, what is known of the value -/
structure Mkr (w0 : World) (M : Nat → Prop) where
  i : Nat
  d : Tmp
  C : Value → Chunk w0 M
  G : Value → Prop
/-- a reads as a0, but for the values of ds -/
def Like (ds : List Tmp) (a0 a : Act) : Prop := ∀ t, ds.contains t = false → a.tmps.toList[t]? = a0.tmps.toList[t]?
theorem Like.oval {ds : List Tmp} {a0 a : Act} (h : Like ds a0 a) {t : Tmp} (ht : ds.contains t = false) {v : Value} (hv : oval a0 (.tmp t) = some v) : oval a (.tmp t) = some v := (h t ht).trans hv
theorem Like.put {ds : List Tmp} {a0 a : Act} (h : Like ds a0 a) {d : Tmp} (hd : ds.contains d = true) (v : Value) : Like ds a0 (a.put (some d) v) := fun t ht => by
  rw [← h t ht]
  have hne : d ≠ t := fun e => by subst e; rw [hd] at ht; cases ht
  simp only [Act.put, Array.toList_setIfInBounds]
  exact List.getElem?_set_ne hne
def lstM {w0 : World} {M : Nat → Prop} : List (Mkr w0 M) → Array Bool → Array Bool
  | [], l => l
  | m :: A, l => lstM A (l.setIfInBounds m.i true)
def putsM {w0 : World} {M : Nat → Prop} : List (Mkr w0 M) → List Value → Act → Act
  | m :: A, v :: vs, a => putsM A vs (a.put (some m.d) v)
  | _, _, a => a
def pczM {w0 : World} {M : Nat → Prop} : List (Mkr w0 M) → List Value → List (Chunk w0 M)
  | m :: A, v :: vs => m.C v :: pczM A vs
  | _, _ => []
def allM {w0 : World} {M : Nat → Prop} : List (Mkr w0 M) → List Value → Prop
  | m :: A, v :: vs => m.G v ∧ allM A vs
  | [], [] => True
  | _, _ => False
section
variable {w0 : World} {M : Nat → Prop}
theorem set_comm_any (l : Array Bool) (i j : Nat) : (l.setIfInBounds i true).setIfInBounds j true = (l.setIfInBounds j true).setIfInBounds i true := by
  by_cases h : i = j
  · subst h; rfl
  · exact Array.setIfInBounds_comm _ _ h
theorem lstM_set (A : List (Mkr w0 M)) (l : Array Bool) (j : Nat) : lstM A (l.setIfInBounds j true) = (lstM A l).setIfInBounds j true := by
  induction A generalizing l with
  | nil => rfl
  | cons m A ih => rw [lstM, lstM, set_comm_any, ih]
theorem lstM_mid (A : List (Mkr w0 M)) (m : Mkr w0 M) (B : List (Mkr w0 M)) (l : Array Bool) : lstM (A ++ m :: B) l = lstM (A ++ B) (l.setIfInBounds m.i true) := by
  induction A generalizing l with
  | nil => rfl
  | cons x A ih => rw [List.cons_append, List.cons_append, lstM, lstM, ih, set_comm_any]
theorem put_comm (a : Act) {d e : Tmp} (h : d ≠ e) (v u : Value) : (a.put (some d) v).put (some e) u = (a.put (some e) u).put (some d) v := by
  simp only [Act.put]
  congr 1
  exact Array.setIfInBounds_comm _ _ h
theorem putsM_put (A : List (Mkr w0 M)) (vs : List Value) (a : Act) {d : Tmp} (h : ∀ x ∈ A, x.d ≠ d) (v : Value) : putsM A vs (a.put (some d) v) = (putsM A vs a).put (some d) v := by
  induction A generalizing vs a with
  | nil => cases vs <;> rfl
  | cons x A ih =>
    cases vs with
    | nil => rfl
    | cons u vs => rw [putsM, putsM, put_comm _ (Ne.symm (h x (by simp))), ih _ _ (fun y hy => h y (by simp [hy]))]
theorem putsM_mid (A : List (Mkr w0 M)) (m : Mkr w0 M) (B : List (Mkr w0 M)) (va vb : List Value) (v : Value) (hl : va.length = A.length) (a : Act) (h : ∀ x ∈ A, x.d ≠ m.d) : putsM (A ++ m :: B) (va ++ v :: vb) a = putsM (A ++ B) (va ++ vb) (a.put (some m.d) v) := by
  induction A generalizing va a with
  | nil =>
    cases va with
    | nil => rfl
    | cons x va => simp at hl
  | cons x A ih =>
    cases va with
    | nil => simp at hl
    | cons u va =>
      rw [List.cons_append, List.cons_append, List.cons_append, List.cons_append, putsM, putsM, ih va (by simpa using hl) _ (fun y hy => h y (by simp [hy])), put_comm _ (h x (by simp))]
theorem pczM_mid (A : List (Mkr w0 M)) (m : Mkr w0 M) (B : List (Mkr w0 M)) (va vb : List Value) (v : Value) (hl : va.length = A.length) : (m.C v :: pczM (A ++ B) (va ++ vb)).Perm (pczM (A ++ m :: B) (va ++ v :: vb)) := by
  induction A generalizing va with
  | nil =>
    cases va with
    | nil => exact List.Perm.refl _
    | cons x va => simp at hl
  | cons x A ih =>
    cases va with
    | nil => simp at hl
    | cons u va =>
      rw [List.cons_append, List.cons_append, List.cons_append, List.cons_append, pczM, pczM]
      exact (List.Perm.swap _ _ _).trans ((ih va (by simpa using hl)).cons _)
theorem allM_mid (A : List (Mkr w0 M)) (m : Mkr w0 M) (B : List (Mkr w0 M)) (va vb : List Value) (v : Value) (hl : va.length = A.length) (hv : m.G v) (h : allM (A ++ B) (va ++ vb)) : allM (A ++ m :: B) (va ++ v :: vb) := by
  induction A generalizing va with
  | nil =>
    cases va with
    | nil => exact ⟨hv, h⟩
    | cons x va => simp at hl
  | cons x A ih =>
    cases va with
    | nil => simp at hl
    | cons u va => exact ⟨h.1, ih va (by simpa using hl) h.2⟩
theorem allM_len : ∀ {A : List (Mkr w0 M)} {vs : List Value}, allM A vs → vs.length = A.length
  | [], [], _ => rfl
  | _ :: A, _ :: vs, h => by rw [List.length_cons, List.length_cons, allM_len h.2]
  | [], _ :: _, h => h.elim
  | _ :: _, [], h => h.elim
end
section
variable {P : Program} {ops : Array Oper} {Q : Exit → Act → World → Prop} {w0 : World} {M : Nat → Prop} {md : Region.Mode} {late : List Nat} {fx : List (Chunk w0 M)}
/-- what is asked of a maker -/
def MkrOk (P : Program) (ops : Array Oper) (Q : Exit → Act → World → Prop) (ds : List Tmp) (a0 : Act) (m : Mkr w0 M) : Prop :=
  ∃ o, ops[m.i]? = some o ∧ ∀ (cs : List (Chunk w0 M)) (a : Act) (w : World) (K : Act → World → Prop), Like ds a0 a → St w0 M cs w → (∀ v w', m.G v → St w0 M (m.C v :: cs) w' → K (a.put (some m.d) v) w') → wpList P ops (DQ Q K) [o] a w
/-- every other operation that is not listed waits for all of A, or for another one that is left -/
def waitsM (md : Region.Mode) (ops : Array Oper) (listed : Array Bool) (is : List Nat) (js : List Nat) : Bool :=
  (List.range ops.size).all fun j => listed.getD j true || is.contains j || js.contains j || match ops[j]? with | some o => (o.after.any fun e => Region.binds md e && !(listed.getD e.on true) && !(is.contains e.on) && !(js.contains e.on)) || is.all fun i => o.after.any fun e => Region.binds md e && e.on == i | none => true
theorem waitsM_spec {listed : Array Bool} {is js : List Nat} (h : waitsM md ops listed is js = true) {j : Nat} {o : Oper} (ho : ops[j]? = some o) (hu : listed.getD j true = false) (hj : j ∉ is) (hj' : j ∉ js) : (∃ e ∈ o.after, Region.binds md e = true ∧ listed.getD e.on true = false ∧ e.on ∉ is ∧ e.on ∉ js) ∨ ∀ i ∈ is, ∃ e ∈ o.after, Region.binds md e = true ∧ e.on = i := by
  have hlt : j < ops.size := by
    rcases Nat.lt_or_ge j ops.size with h1 | h1
    · exact h1
    · rw [Array.getElem?_eq_none h1] at ho; cases ho
  have h1 := List.all_eq_true.1 h j (List.mem_range.2 hlt)
  rw [ho, hu] at h1
  have h2 : is.contains j = false := by simpa using hj
  have h3 : js.contains j = false := by simpa using hj'
  rw [h2, h3] at h1
  simp only [Bool.false_or, Bool.or_eq_true] at h1
  rcases h1 with h1 | h1
  · left
    rw [Array.any_eq_true] at h1
    obtain ⟨k, hk, he⟩ := h1
    simp only [Bool.and_eq_true, Bool.not_eq_true'] at he
    exact ⟨_, Array.getElem_mem hk, he.1.1.1, he.1.1.2, by simpa using he.1.2, by simpa using he.2⟩
  · right
    intro i hi
    have h4 := List.all_eq_true.1 h1 i hi
    rw [Array.any_eq_true] at h4
    obtain ⟨k, hk, he⟩ := h4
    rw [Bool.and_eq_true, beq_iff_eq] at he
    exact ⟨_, Array.getElem_mem hk, he.1, he.2⟩
/-- what is asked of all makers -/
structure MkrsOk (P : Program) (ops : Array Oper) (Q : Exit → Act → World → Prop) (md : Region.Mode) (ds : List Tmp) (a0 : Act) (A : List (Mkr w0 M)) (bs : List Nat) (listed : Array Bool) : Prop where
  ok : ∀ m ∈ A, MkrOk P ops Q ds a0 m
  rd : ∀ m ∈ A, m.i ∈ Region.ready md ops listed
  dd : ∀ m ∈ A, ds.contains m.d = true
  ne : A.Pairwise (fun x y => x.i ≠ y.i ∧ x.d ≠ y.d)
  wt : ∀ j o, ops[j]? = some o → listed.getD j true = false → (∀ m ∈ A, m.i ≠ j) → j ∉ bs → (∃ e ∈ o.after, Region.binds md e = true ∧ listed.getD e.on true = false ∧ (∀ m ∈ A, m.i ≠ e.on) ∧ e.on ∉ bs) ∨ ∀ m ∈ A, ∃ e ∈ o.after, Region.binds md e = true ∧ e.on = m.i
theorem MkrsOk.mk' {ds : List Tmp} {a0 : Act} {A : List (Mkr w0 M)} {bs : List Nat} {listed : Array Bool} (ok : ∀ m ∈ A, MkrOk P ops Q ds a0 m) (hr : (A.map (·.i)).all (fun i => (Region.ready md ops listed).contains i) = true) (hd : (A.map (·.d)).all (fun d => ds.contains d) = true) (hi : (A.map (·.i)).Pairwise (· ≠ ·)) (he : (A.map (·.d)).Pairwise (· ≠ ·)) (hw : waitsM md ops listed (A.map (·.i)) bs = true) : MkrsOk P ops Q md ds a0 A bs listed := by
  rw [List.all_eq_true] at hr hd
  rw [List.pairwise_map] at hi he
  refine ⟨ok, fun m hm => ?_, fun m hm => ?_, hi.and he, fun j o ho hu hj hb => ?_⟩
  · simpa using hr m.i (List.mem_map_of_mem hm)
  · exact hd m.d (List.mem_map_of_mem hm)
  · rcases waitsM_spec hw ho hu (fun h => by obtain ⟨x, hx, e⟩ := List.mem_map.1 h; exact hj x hx e) hb with ⟨e, he, h1, h2, h3, h4⟩ | h1
    · exact .inl ⟨e, he, h1, h2, fun m hm hme => h3 (hme ▸ List.mem_map_of_mem hm), h4⟩
    · exact .inr fun m hm => h1 m.i (List.mem_map_of_mem hm)
theorem ready_un {listed : Array Bool} {j : Nat} (h : j ∈ Region.ready md ops listed) : listed.getD j true = false := (mem_ready.1 h).1
theorem un_false {listed : Array Bool} {j : Nat} (h : listed.getD j true = false) : listed.getD j false = false := by
  rcases Nat.lt_or_ge j listed.size with h1 | h1
  · simp [h1] at h ⊢; exact h
  · simp [Array.getElem?_eq_none h1]
theorem MkrsOk.ready {ds : List Tmp} {a0 : Act} {A : List (Mkr w0 M)} {bs : List Nat} {listed : Array Bool} (h : MkrsOk P ops Q md ds a0 A bs listed) (hA : A ≠ []) {j : Nat} (hj : j ∈ Region.ready md ops listed) : j ∈ bs ∨ ∃ m ∈ A, m.i = j := by
  by_cases hb : j ∈ bs
  · exact .inl hb
  · refine .inr (Classical.byContradiction fun hno => ?_)
    obtain ⟨hu, o, ho, hall⟩ := mem_ready.1 hj
    obtain ⟨m, hm⟩ := List.exists_mem_of_ne_nil A hA
    rcases h.wt j o ho hu (fun m hm e => hno ⟨m, hm, e⟩) hb with ⟨e, he, hbn, hun, _⟩ | hw
    · have h1 := hall e he hbn
      rw [un_false hun] at h1
      cases h1
    · obtain ⟨e, he, hbn, hon⟩ := hw m hm
      have h1 := hall e he hbn
      rw [hon, un_false (ready_un (h.rd m hm))] at h1
      cases h1
theorem MkrsOk.next {ds : List Tmp} {a0 : Act} {A B : List (Mkr w0 M)} {m : Mkr w0 M} {bs : List Nat} {listed : Array Bool} (h : MkrsOk P ops Q md ds a0 (A ++ m :: B) bs listed) : MkrsOk P ops Q md ds a0 (A ++ B) bs (listed.setIfInBounds m.i true) := by
  have hsub : ∀ x ∈ A ++ B, x ∈ A ++ m :: B := fun x hx => by
    rcases List.mem_append.1 hx with hx | hx <;> simp [hx]
  have hne := h.ne
  rw [List.pairwise_append, List.pairwise_cons] at hne
  obtain ⟨n1, ⟨n2, n3⟩, n4⟩ := hne
  have hmi : ∀ x ∈ A ++ B, x.i ≠ m.i := fun x hx => by
    rcases List.mem_append.1 hx with hx | hx
    · exact (n4 x hx m (by simp)).1
    · exact Ne.symm (n2 x hx).1
  refine ⟨fun x hx => h.ok x (hsub x hx), fun x hx => ready_mono (h.rd x (hsub x hx)) (hmi x hx), fun x hx => h.dd x (hsub x hx), List.pairwise_append.2 ⟨n1, n3, fun x hx y hy => n4 x hx y (by simp [hy])⟩, fun j o ho hu hj hb => ?_⟩
  by_cases e : m.i = j
  · subst e
    exfalso
    have : listed.getD m.i true = false := ready_un (h.rd m (by simp))
    rcases Nat.lt_or_ge m.i listed.size with h1 | h1
    · simp [h1] at hu
    · simp [Array.getElem?_eq_none h1] at this
  · rw [getD_set_ne true e] at hu
    rcases h.wt j o ho hu (fun y hy => by
      rcases List.mem_append.1 hy with hy | hy
      · exact hj y (by simp [hy])
      · rcases List.mem_cons.1 hy with rfl | hy
        · exact e
        · exact hj y (by simp [hy])) hb with ⟨e1, he, hbn, hun, hm, hb2⟩ | hw
    · exact .inl ⟨e1, he, hbn, by rw [getD_set_ne true (hm m (by simp))]; exact hun, fun y hy => hm y (hsub y hy), hb2⟩
    · exact .inr fun x hx => hw x (hsub x hx)
theorem wpOp_mkr {ds : List Tmp} {a0 a : Act} {m : Mkr w0 M} {cs : List (Chunk w0 M)} {w : World} {K : Act → World → Prop} (h : MkrOk P ops Q ds a0 m) (hL : Like ds a0 a) (hS : St w0 M cs w) (k : ∀ v w', m.G v → St w0 M (m.C v :: cs) w' → K (a.put (some m.d) v) w') : wpOp P ops Q m.i K a w := by
  obtain ⟨o, ho, h1⟩ := h
  exact wpOp_of_list ho (h1 cs a w K hL hS k)
/-- all makers, in whatever order -/
theorem dr_makers0 {ds : List Tmp} {a0 : Act} {fuel : Nat} : ∀ (n : Nat) (A : List (Mkr w0 M)) (hn : A.length = n) (cs : List (Chunk w0 M)) (listed : Array Bool) (a : Act) (w : World), MkrsOk P ops Q md ds a0 A [] listed → Like ds a0 a → St w0 M cs w → (∀ c ∈ fx, c ∈ cs) →
    (∀ vs w', allM A vs → St w0 M (pczM A vs ++ cs) w' → wpAnyL P md ops Q (SF w0 M fx) late fuel (lstM A listed) (putsM A vs a) w') → wpAnyL P md ops Q (SF w0 M fx) late (fuel + n) listed a w
  | 0, A, hn, cs, listed, a, w, hok, hL, hS, hfx, K => by
    have : A = [] := List.eq_nil_of_length_eq_zero hn
    subst this
    exact K [] w trivial hS
  | n + 1, A, hn, cs, listed, a, w, hok, hL, hS, hfx, K => by
    have hA : A ≠ [] := fun e => by subst e; simp at hn
    refine ⟨fun h0 => ?_, fun i hi => ?_⟩
    · obtain ⟨m, hm⟩ := List.exists_mem_of_ne_nil A hA
      have := hok.rd m hm
      rw [h0] at this; cases this
    · rcases hok.ready hA hi with hb | ⟨m, hm, rfl⟩
      · cases hb
      · obtain ⟨l, r, rfl⟩ := List.append_of_mem hm
        have hne := hok.ne
        rw [List.pairwise_append] at hne
        refine wpOp_mkr (hok.ok m hm) hL hS (fun v w' hv hS' => ⟨.inr ⟨_, hS', fun c hc => by simp [hfx c hc]⟩, ?_⟩)
        refine dr_makers0 n (l ++ r) (by simp at hn ⊢; omega) (m.C v :: cs) _ _ _ hok.next (hL.put (hok.dd m hm) v) hS' (fun c hc => by simp [hfx c hc]) (fun vs w'' hvs hS'' => ?_)
        have hlen := allM_len hvs
        obtain ⟨va, vb, rfl, hva⟩ : ∃ va vb, vs = va ++ vb ∧ va.length = l.length := ⟨vs.take l.length, vs.drop l.length, (List.take_append_drop _ _).symm, by rw [List.length_take, hlen, List.length_append]; omega⟩
        have h2 := K (va ++ v :: vb) w'' (allM_mid l m r va vb v hva hv hvs) (hS''.perm ((List.perm_middle).trans ((pczM_mid l m r va vb v hva).append_right cs)))
        rw [lstM_mid, putsM_mid l m r va vb v hva a (fun x hx => (hne.2.2 x hx m (by simp)).2)] at h2
        exact h2
/-- all makers, in whatever order, and one more that no other operation but the last waits for -/
theorem dr_makers1 {ds : List Tmp} {a0 : Act} {fuel : Nat} (b : Mkr w0 M) (hb : MkrOk P ops Q ds a0 b) (hbd : ds.contains b.d = true) : ∀ (n : Nat) (A : List (Mkr w0 M)) (hn : A.length = n) (cs : List (Chunk w0 M)) (listed : Array Bool) (a : Act) (w : World), MkrsOk P ops Q md ds a0 A [b.i] listed → b.i ∈ Region.ready md ops listed → (∀ m ∈ A, m.i ≠ b.i ∧ m.d ≠ b.d) → Like ds a0 a → St w0 M cs w → (∀ c ∈ fx, c ∈ cs) →
    (∀ vs w', allM A vs → St w0 M (pczM A vs ++ cs) w' → wpAnyL P md ops Q (SF w0 M fx) late (fuel + 1) (lstM A listed) (putsM A vs a) w') →
    (∀ v vs w', b.G v → allM A vs → St w0 M (pczM A vs ++ b.C v :: cs) w' → wpAnyL P md ops Q (SF w0 M fx) late fuel ((lstM A listed).setIfInBounds b.i true) ((putsM A vs a).put (some b.d) v) w') → wpAnyL P md ops Q (SF w0 M fx) late (fuel + 1 + n) listed a w
  | 0, A, hn, cs, listed, a, w, hok, hbr, hbn, hL, hS, hfx, K1, K2 => by
    have : A = [] := List.eq_nil_of_length_eq_zero hn
    subst this
    exact K1 [] w trivial hS
  | n + 1, A, hn, cs, listed, a, w, hok, hbr, hbn, hL, hS, hfx, K1, K2 => by
    have hA : A ≠ [] := fun e => by subst e; simp at hn
    refine ⟨fun h0 => ?_, fun i hi => ?_⟩
    · rw [h0] at hbr; cases hbr
    · rcases hok.ready hA hi with hib | ⟨m, hm, rfl⟩
      · rw [List.mem_singleton.1 hib]
        refine wpOp_mkr hb hL hS (fun v w' hv hS' => ⟨.inr ⟨_, hS', fun c hc => by simp [hfx c hc]⟩, ?_⟩)
        have hok' : MkrsOk P ops Q md ds a0 A [] (listed.setIfInBounds b.i true) := by
          refine ⟨hok.ok, fun x hx => ready_mono (hok.rd x hx) (hbn x hx).1, hok.dd, hok.ne, fun j o ho hu hj _ => ?_⟩
          by_cases e : b.i = j
          · subst e
            exfalso
            have := ready_un hbr
            rcases Nat.lt_or_ge b.i listed.size with h1 | h1
            · simp [h1] at hu
            · simp [Array.getElem?_eq_none h1] at this
          · rw [getD_set_ne true e] at hu
            rcases hok.wt j o ho hu hj (fun h => e (List.mem_singleton.1 h).symm) with ⟨e1, he, hbn', hun, hm, hb2⟩ | hw
            · exact .inl ⟨e1, he, hbn', by rw [getD_set_ne true (fun h => hb2 (List.mem_singleton.2 h.symm))]; exact hun, hm, by simp⟩
            · exact .inr hw
        have h3 := dr_makers0 (fx := fx) (late := late) (fuel := fuel) (n + 1) A hn (b.C v :: cs) (listed.setIfInBounds b.i true) (a.put (some b.d) v) w' hok' (hL.put hbd v) hS' (fun c hc => by simp [hfx c hc]) (fun vs w'' hvs hS'' => by
          have := K2 v vs w'' hv hvs hS''
          rw [← lstM_set, ← putsM_put A vs a (fun x hx => (hbn x hx).2)] at this
          exact this)
        rw [show fuel + (n + 1) = fuel + 1 + n by omega] at h3
        exact h3
      · obtain ⟨l, r, rfl⟩ := List.append_of_mem hm
        have hne := hok.ne
        rw [List.pairwise_append] at hne
        have hsub : ∀ x ∈ l ++ r, x ∈ l ++ m :: r := fun x hx => by
          rcases List.mem_append.1 hx with hx | hx <;> simp [hx]
        refine wpOp_mkr (hok.ok m hm) hL hS (fun v w' hv hS' => ⟨.inr ⟨_, hS', fun c hc => by simp [hfx c hc]⟩, ?_⟩)
        refine dr_makers1 b hb hbd n (l ++ r) (by simp at hn ⊢; omega) (m.C v :: cs) _ _ _ hok.next (ready_mono hbr (Ne.symm (hbn m hm).1)) (fun x hx => hbn x (hsub x hx)) (hL.put (hok.dd m hm) v) hS' (fun c hc => by simp [hfx c hc]) (fun vs w'' hvs hS'' => ?_) (fun u vs w'' hu hvs hS'' => ?_)
        · have hlen := allM_len hvs
          obtain ⟨va, vb, rfl, hva⟩ : ∃ va vb, vs = va ++ vb ∧ va.length = l.length := ⟨vs.take l.length, vs.drop l.length, (List.take_append_drop _ _).symm, by rw [List.length_take, hlen, List.length_append]; omega⟩
          have h2 := K1 (va ++ v :: vb) w'' (allM_mid l m r va vb v hva hv hvs) (hS''.perm ((List.perm_middle).trans ((pczM_mid l m r va vb v hva).append_right cs)))
          rw [lstM_mid, putsM_mid l m r va vb v hva a (fun x hx => (hne.2.2 x hx m (by simp)).2)] at h2
          exact h2
        · have hlen := allM_len hvs
          obtain ⟨va, vb, rfl, hva⟩ : ∃ va vb, vs = va ++ vb ∧ va.length = l.length := ⟨vs.take l.length, vs.drop l.length, (List.take_append_drop _ _).symm, by rw [List.length_take, hlen, List.length_append]; omega⟩
          have hperm : (pczM (l ++ r) (va ++ vb) ++ b.C u :: m.C v :: cs).Perm (pczM (l ++ m :: r) (va ++ v :: vb) ++ b.C u :: cs) := by
            refine List.Perm.trans ?_ ((pczM_mid l m r va vb v hva).append_right (b.C u :: cs))
            rw [List.cons_append]
            refine List.Perm.trans ?_ List.perm_middle
            exact (List.Perm.swap _ _ _).append_left _
          have h2 := K2 u (va ++ v :: vb) w'' hu (allM_mid l m r va vb v hva hv hvs) (hS''.perm hperm)
          rw [lstM_mid, putsM_mid l m r va vb v hva a (fun x hx => (hne.2.2 x hx m (by simp)).2)] at h2
          exact h2
end
end Go.Proofs.Ytmjmdncdmmcmaaa
