/- rollbacknetref07: last, insert. Conditions: at most a million pages. -/
import Derived.Test.YtmjmdncdmmcmaaaImgF
import Derived.Test.YtmjmdncdmmcmaaaArms
import Derived.Test.YtmjmdncdmmcmaaaRowLd
import Derived.Deep.DeepCutAuto
import Derived.Test.YtmjmdncdmmcmaaaTypes
namespace Go.Proofs.Ytmjmdncdmmcmaaa
open Go.RowKit
set_option linter.unusedVariables false
set_option linter.unusedSimpArgs false
set_option linter.unusedSectionVars false

/-- where a slice begins behind its first k elements -/
def fromA (A : Option Addr) (k c sz : Nat) : Option Addr := match A with
  | none => none
  | some a => if k = c then some ⟨a.block, a.off, none⟩ else some ⟨a.block, a.off + k * sz, none⟩
theorem run_from {P : Program} {t e : TypeId} {A : Option Addr} {k n c sz : Nat} (hu : P.underlying t = some (.slice e)) (hs : (P.info? e).map (·.size) = some sz) (hA : A = none → n = 0 ∧ c = 0) (hB : ∀ a, A = some a → a.spot = none) (hk : k ≤ n) (hc : n ≤ c) (w : World) :
    (Instr.sliceAt t (.slice A n c) (some (.int .i64 (k : Int))) none none).run P w = .ok (.slice (fromA A k c sz) (n - k) (c - k)) w := by
  have h1 : (k : Int) ≤ (n : Int) := by omega
  have h2 : (n : Int) ≤ (c : Int) := by omega
  cases A with
  | none =>
    obtain ⟨rfl, rfl⟩ := hA rfl
    have : k = 0 := by omega
    subst this
    simp [Instr.sliceAt, Instr.slice, run_underlying hu, Instr.sliceBounds, Instr.sliceBound, asIntOf, run_sizeOf hs, add_mk, fromA]
  | some a =>
    obtain ⟨b, o, sp⟩ := a
    have := hB _ rfl
    simp only at this
    subst this
    by_cases e : k = c
    · subst e
      have : n = k := by omega
      subst this
      simp [Instr.sliceAt, Instr.slice, run_underlying hu, Instr.sliceBounds, Instr.sliceBound, asIntOf, run_sizeOf hs, add_mk, fromA]
    · have h3 : ¬ c - k = 0 := by omega
      have e2 : ¬ c = k := fun h => e h.symm
      simp [Instr.sliceAt, Instr.slice, run_underlying hu, Instr.sliceBounds, Instr.sliceBound, asIntOf, run_sizeOf hs, add_mk, fromA, hk, hc, h1, h2, h3, e, e2]
theorem RV.fromA {T : Nat → Prop} {w : World} {A : Option Addr} {vs : List Value} {n c sz : Nat} (h : RV T w A vs) (hl : vs.length = n * sz) (hc : n ≤ c) (k : Nat) : RV T w (Go.Proofs.Ytmjmdncdmmcmaaa.fromA A k c sz) (vs.drop (k * sz)) := by
  cases A with
  | none =>
    have hv : vs = [] := by
      cases vs with
      | nil => rfl
      | cons v vs => obtain ⟨b, o, e, _⟩ := h 0 v rfl; cases e
    rw [hv]; simp; exact RV.nil_ _ _ _
  | some a =>
    by_cases e : k = c
    · rw [List.drop_of_length_le (by rw [hl, e]; exact Nat.mul_le_mul_right _ hc)]
      exact RV.nil_ _ _ _
    · intro j u hu
      obtain ⟨b, o, e2, h1, h2⟩ := h (k * sz + j) u (by rw [← hu, List.getElem?_drop])
      injection e2 with e2
      subst e2
      exact ⟨b, o + k * sz, by simp [Go.Proofs.Ytmjmdncdmmcmaaa.fromA, e], h1, by rw [Nat.add_assoc]; exact h2⟩
theorem dFrom {P : Program} {ops : Array Oper} {Q : Exit → Act → World → Prop} {a : Act} {w w0 : World} {M : Nat → Prop} {cs fx : List (Chunk w0 M)} {md : Region.Mode} {fuel : Nat} {listed : Array Bool} {late : List Nat} {d : Option Tmp} {tt t e : TypeId} {pos : String} {af : Array Edge} {gd : Option (Nat × Bool)} {x y : Operand} {A FA : Option Addr} {k n c sz : Nat} (hFA : FA = fromA A k c sz) (hu : P.underlying t = some (.slice e)) (hs : (P.info? e).map (·.size) = some sz) (hA : A = none → n = 0 ∧ c = 0) (hB : ∀ a, A = some a → a.spot = none) (hk : k ≤ n) (hc : n ≤ c) (hS : St w0 M cs w) (i : Nat) [hsb : SubC fx cs]
    (hi : ops[i]? = some ⟨d, .slice t x (some y) none none, tt, pos, af, gd⟩) (hw : Region.wanted ⟨d, .slice t x (some y) none none, tt, pos, af, gd⟩ (yielded ops a.tmps) = true) (hx' : oval a x = some (.slice A n c)) (hy' : oval a y = some (.int .i64 (k : Int)))
    (h : wpAnyL P md ops Q (SF w0 M fx) late fuel (listed.setIfInBounds i true) (a.put d (.slice FA (n - k) (c - k))) w) (hno : Region.noSelect ops = true := by kernel_rfl) (hf : (Region.free md ops listed i && lateOk md ops late i) = true := by kernel_rfl) (hr : (Region.ready md ops listed).contains i = true := by kernel_rfl) (hQ : ∀ c a v w, Q (.panic c) (a.put d v) w → Q (.panic c) a w := by exact fun _ _ _ _ h => h) : wpAnyL P md ops Q (SF w0 M fx) late (fuel + 1) listed a w :=
  dr_pure hS i hi hno hf hr hQ hw (fun w => by simp only [execOp, oval_eval hx', oval_eval hy', Option.map_none, Option.map_some, Sem.run_bind, run_from hu hs hA hB hk hc, Result.andThen_ok, Sem.run_pure, hFA]) h
theorem run_to {P : Program} {t e : TypeId} {A : Option Addr} {k n c sz : Nat} (hu : P.underlying t = some (.slice e)) (hs : (P.info? e).map (·.size) = some sz) (hA : A = none → n = 0 ∧ c = 0) (hB : ∀ a, A = some a → a.spot = none) (hk : k ≤ n) (hc : n ≤ c) (w : World) :
    (Instr.sliceAt t (.slice A n c) none (some (.int .i64 (k : Int))) none).run P w = .ok (.slice A k c) w := by
  have h1 : (k : Int) ≤ (n : Int) := by omega
  have h2 : (n : Int) ≤ (c : Int) := by omega
  cases A with
  | none =>
    obtain ⟨rfl, rfl⟩ := hA rfl
    have : k = 0 := by omega
    subst this
    simp [Instr.sliceAt, Instr.slice, run_underlying hu, Instr.sliceBounds, Instr.sliceBound, asIntOf, run_sizeOf hs, add_mk]
  | some a =>
    obtain ⟨b, o, sp⟩ := a
    have := hB _ rfl
    simp only at this
    subst this
    have h3 : (k : Int) ≤ (c : Int) := by omega
    have h4 : k ≤ c := by omega
    by_cases e : c = 0
    · subst e
      have : k = 0 := by omega
      subst this
      simp [Instr.sliceAt, Instr.slice, run_underlying hu, Instr.sliceBounds, Instr.sliceBound, asIntOf, run_sizeOf hs, add_mk]
    · simp [Instr.sliceAt, Instr.slice, run_underlying hu, Instr.sliceBounds, Instr.sliceBound, asIntOf, run_sizeOf hs, add_mk, hk, hc, h1, h2, h3, h4, e]
section
variable {P : Program} {ops : Array Oper} {Q : Exit → Act → World → Prop} {a : Act} {w : World} {rest : List Oper} {d : Option Tmp} {tt t e : TypeId} {pos : String} {af : Array Edge} {gd : Option (Nat × Bool)} {x y : Operand}
/-- the first elements of a slice -/
theorem sTo {A : Option Addr} {k n c sz : Nat} (hu : P.underlying t = some (.slice e)) (hs : (P.info? e).map (·.size) = some sz) (hA : A = none → n = 0 ∧ c = 0) (hB : ∀ a, A = some a → a.spot = none) (hk : k ≤ n) (hc : n ≤ c) (hw : Region.wanted ⟨d, .slice t x none (some y) none, tt, pos, af, gd⟩ (yielded ops a.tmps) = true) (hx' : oval a x = some (.slice A n c)) (hy' : oval a y = some (.int .i64 (k : Int)))
    (h : wpList P ops Q rest (a.put d (.slice A k c)) w) : wpList P ops Q (⟨d, .slice t x none (some y) none, tt, pos, af, gd⟩ :: rest) a w :=
  st_run hw (by simp only [execOp, oval_eval hx', oval_eval hy', Option.map_none, Option.map_some, Sem.run_bind, run_to hu hs hA hB hk hc, Result.andThen_ok, Sem.run_pure]) h
theorem oTo (k : wpList P ops Q (⟨d, .slice t x none (some y) none, tt, pos, af, gd⟩ :: rest) a w) : wpList P ops Q (⟨d, .slice t x none (some y) none, tt, pos, af, gd⟩ :: rest) a w := k
end
/-- what the cells of a page look like -/
def PgR (rep : List Value → Pg → Prop) : Prop := ∀ cs p, rep cs p → ∃ v, cs = [.int .i64 p.1, v] ∧ v.oneCell' = true
theorem PgR.page (S : Nat → Prop) (w : World) : PgR (repPage S w) := fun cs p ⟨A, c, e, _⟩ => ⟨_, e, rfl⟩
theorem one2 {z : Int} {v : Value} (h : v.oneCell' = true) : ∀ u ∈ [Value.int .i64 z, v], u.oneCell' = true := by
  intro u hu
  simp only [List.mem_cons, List.not_mem_nil, or_false] at hu
  rcases hu with rfl | rfl
  · rfl
  · exact h
theorem PgR.one {rep : List Value → Pg → Prop} (h : PgR rep) (cs : List Value) (p : Pg) (hp : rep cs p) : ∀ u ∈ cs, u.oneCell' = true := by
  obtain ⟨v, rfl, hv⟩ := h cs p hp
  intro u hu
  simp only [List.mem_cons, List.not_mem_nil, or_false] at hu
  rcases hu with rfl | rfl
  · rfl
  · exact hv
/-- a page of a row -/
theorem pg_cells {T : Nat → Prop} {rep : List Value → Pg → Prop} (hR : PgR rep) {w : World} {A : Option Addr} {vs : List Value} {ps : List Pg} (hr : RV T w A vs) (hp : Reps rep 2 vs ps) {j : Nat} (hj : j < ps.length) :
    ∃ b o v, A = some ⟨b, o, none⟩ ∧ T b ∧ w.cell? ⟨b, o + j * 2, none⟩ = some (.int .i64 (ps.getD j (0, [])).1) ∧ Cells w b (o + j * 2) [.int .i64 (ps.getD j (0, [])).1, v] ∧ v.oneCell' = true ∧ rep [.int .i64 (ps.getD j (0, [])).1, v] (ps.getD j (0, [])) := by
  obtain ⟨cs, hcl, hrep, hcc⟩ := hp.at_ hj
  have e : ps.getD j (0, []) = ps[j] := by simp [hj]
  rw [e]
  obtain ⟨v, rfl, hv⟩ := hR _ _ hrep
  obtain ⟨b, o, rfl, ht, hc0⟩ := hr (j * 2) (.int .i64 ps[j].1) (by have := hcc 0 (by omega); simpa using this)
  obtain ⟨b', o', e', _, hc1⟩ := hr (j * 2 + 1) v (by have := hcc 1 (by omega); simpa using this)
  injection e' with e'
  injection e' with e1 e2
  subst e1 e2
  refine ⟨b, o, v, rfl, ht, hc0, fun i u hu => ?_, hv, hrep⟩
  match i, hu with
  | 0, hu => simp at hu; subst hu; exact hc0
  | 1, hu => simp at hu; subst hu; rw [Nat.add_assoc]; exact hc1
  | i + 2, hu => simp at hu
theorem lastIx_succ (l : List Pg) (k : Int) (j : Nat) : lastIx l k (j + 1) = if (l.getD j (0, [])).1 = k then (j : Int) else lastIx l k j := rfl
theorem posI_succ (l : List Pg) (k : Int) (j : Nat) : posI l k (j + 1) = if k < (l.getD j (0, [])).1 then posI l k j else j + 1 := rfl
set_option maxRecDepth 100000 in
set_option maxHeartbeats 1600000 in
theorem last_any {T : Nat → Prop} {rep : List Value → Pg → Prop} (hR : PgR rep) (A : Option Addr) (c : Nat) (ps : List Pg) (vs : List Value) (k : Int) (w0 : World) (hr : RV T w0 A vs) (hp : Reps rep 2 vs ps) (hx : ps.length ≤ 1000000) :
    Calls Try.prog 44 #[.slice A ps.length c, .int .i64 k] w0 fun e w' => e = .returned (.int .i64 (lastIx ps k ps.length)) ∧ Ext w0 w' := by
  have hS := St.start w0 NoM
  have HP := Lib.hid (And.intro hR (And.intro hr hp))
  clear hr hp hR
  go_enter Try.func44, Try.ntmps44
  go_wp2_with (first | (refine oL ?_; (first | refine sL1 hS rfl rfl rfl ?_ | refine sL2 hS rfl rfl rfl ?_ | refine sL3 hS rfl rfl ?_ | refine sL4 hS rfl rfl ?_ | refine sL5 hS rfl rfl ?_ | refine sL6 hS rfl rfl ?_ | refine sL7 hS rfl rfl ?_)) | fail)
  go_loopw [5] (fun s5 wr => ∃ (m : Nat) (z : Int), m ≤ ps.length ∧ z = (m : Int) - 1 ∧ s5 = .int .i64 z ∧ Hid (lastIx ps k m = lastIx ps k ps.length) ∧ St w0 NoM [] wr) (fun s5 _ => (intOf s5 + 1).toNat)
  case atStart => exact ⟨ps.length, _, Nat.le_refl _, rfl, rfl, Lib.hid rfl, hS⟩
  case round =>
    obtain ⟨m, z, hm, hz, rfl, HI, hS⟩ := hrel
    cases m with
    | zero =>
      have : z = -1 := by omega
      subst this
      have HE := Lib.hid (show lastIx ps k ps.length = -1 from HI.out.symm)
      clear hz
      go_wp2_with (first | (refine oL ?_; (first | refine sL1 hS rfl rfl rfl ?_ | refine sL2 hS rfl rfl rfl ?_ | refine sL3 hS rfl rfl ?_ | refine sL4 hS rfl rfl ?_ | refine sL5 hS rfl rfl ?_ | refine sL6 hS rfl rfl ?_ | refine sL7 hS rfl rfl ?_)) | fail)
      go_ret
      rw [HE.out]
      exact ⟨rfl, hS.toExt⟩
    | succ j =>
      have : z = (j : Int) := by omega
      subst this
      obtain ⟨b, o, v, rfl, _, hc0, _, _, _⟩ := pg_cells HP.out.1 HP.out.2.1 HP.out.2.2 (j := j) (by omega)
      have HI2 := Lib.hid ((lastIx_succ ps k j).symm.trans HI.out)
      have hjl : (j : Int) < ps.length := by omega
      clear HI hz
      generalize (ps.getD j (0, [])).1 = nm at *
      by_cases he : nm = k
      · have HE := Lib.hid (show lastIx ps k ps.length = (j : Int) from (by rw [← HI2.out, if_pos he]))
        have he2 : (nm == k) = true := by simp [he]
        clear he
        go_wp2_with (first | (refine oL ?_; (first | refine sL1 hS rfl rfl rfl ?_ | refine sL2 hS rfl rfl rfl ?_ | refine sL3 hS rfl rfl ?_ | refine sL4 hS rfl rfl ?_ | refine sL5 hS rfl rfl ?_ | refine sL6 hS rfl rfl ?_ | refine sL7 hS rfl rfl ?_)) | fail)
        go_ret
        rw [HE.out]
        exact ⟨rfl, hS.toExt⟩
      · have HE := Lib.hid (show lastIx ps k j = lastIx ps k ps.length from (by rw [← HI2.out, if_neg he]))
        have he2 : (nm == k) = false := by simp [he]
        clear he
        go_wp2_with (first | (refine oL ?_; (first | refine sL1 hS rfl rfl rfl ?_ | refine sL2 hS rfl rfl rfl ?_ | refine sL3 hS rfl rfl ?_ | refine sL4 hS rfl rfl ?_ | refine sL5 hS rfl rfl ?_ | refine sL6 hS rfl rfl ?_ | refine sL7 hS rfl rfl ?_)) | fail)
        go_roundw
        case measure => simp [intOf]; try omega
        exact ⟨j, (j : Int) - 1, by omega, rfl, by go_num, HE, hS⟩
theorem Reps.cut {α : Type} {rep : List Value → α → Prop} {sz : Nat} : ∀ {xs : List α} {vs : List Value}, Reps rep sz vs xs → ∀ m, Reps rep sz (vs.take (m * sz)) (xs.take m) ∧ Reps rep sz (vs.drop (m * sz)) (xs.drop m)
  | [], vs, h, m => by
    have : vs = [] := h
    subst this
    simp only [List.take_nil, List.drop_nil]
    exact ⟨rfl, rfl⟩
  | x :: xs, vs, h, 0 => by
    simp only [Nat.zero_mul, List.take_zero, List.drop_zero]
    exact ⟨rfl, h⟩
  | x :: xs, vs, h, m + 1 => by
    obtain ⟨cs, r, rfl, hl, hr, h2⟩ := h
    obtain ⟨h3, h4⟩ := Reps.cut h2 m
    have e : (m + 1) * sz = cs.length + m * sz := by rw [Nat.succ_mul, Nat.add_comm, hl]
    rw [e, List.take_length_add_append, List.drop_length_add_append, List.take_succ_cons, List.drop_succ_cons]
    exact ⟨⟨cs, _, rfl, hl, hr, h3⟩, h4⟩
/-- a call returns pages in a new row -/
def RetPg (rep : List Value → Pg → Prop) (w : World) (ps : List Pg) (en : Ending) (w' : World) : Prop := ∃ vs, Reps rep 2 vs ps ∧ RetRow w 27 2 ps.length vs en w'
theorem insL_reps {rep : List Value → Pg → Prop} {vs cs : List Value} {ps : List Pg} {p : Pg} (h : Reps rep 2 vs ps) (hp : rep cs p) (hl : cs.length = 2) (m : Nat) : Reps rep 2 (vs.take (m * 2) ++ cs ++ vs.drop (m * 2)) (ps.take m ++ p :: ps.drop m) := by
  have e : ps.take m ++ p :: ps.drop m = (ps.take m ++ [p]) ++ ps.drop m := by simp
  rw [e]
  obtain ⟨h1, h2⟩ := h.cut m
  exact (h1.snoc hl hp).append h2
theorem RV.take2 {T : Nat → Prop} {w : World} {A : Option Addr} {vs : List Value} (h : RV T w A vs) (k : Nat) : RV T w A (vs.take k) := fun j u hu => h j u (by
  rw [List.getElem?_take] at hu
  split at hu
  · exact hu
  · cases hu)
set_option maxRecDepth 100000 in
set_option maxHeartbeats 1600000 in
theorem insert_any {T : Nat → Prop} {rep : List Value → Pg → Prop} (hR : PgR rep) (A : Option Addr) (c : Nat) (ps : List Pg) (vs : List Value) (p : Pg) (v1 : Value) (w0 : World) (hr : RV T w0 A vs) (hp : Reps rep 2 vs ps) (hq : rep [.int .i64 p.1, v1] p) (hv1 : v1.oneCell' = true) (hx : ps.length ≤ 1000000) (hA : A = none → ps.length = 0 ∧ c = 0) (hB : ∀ a, A = some a → a.spot = none) (hc : ps.length ≤ c) (hc' : c ≤ 9223372036854775807) :
    Calls Try.prog 45 #[.slice A ps.length c, .agg #[.int .i64 p.1, v1]] w0 (RetPg rep w0 (insL ps p)) := by
  have hS := St.start w0 NoM
  have HR := Lib.hid hR
  have HP := Lib.hid (And.intro hr (And.intro hp (And.intro hq trivial)))
  have hvl : vs.length = ps.length * 2 := hp.length
  have HA := Lib.hid hA
  have HB := Lib.hid hB
  clear hr hp hq hA hB hR
  obtain ⟨pn, pl⟩ := p
  simp only at *
  go_enter Try.func45, Try.ntmps45
  go_wp2_with (first | (refine oP ?_; ((first | refine sP1 hS rfl rfl rfl ?_ | refine sP2 hS rfl rfl rfl ?_ | refine sP3 hS rfl rfl rfl ?_); clear hS; first | ((fail_if_success guard_hyp L1); intro L1 cl1 w hL1 hM1 hS) | ((fail_if_success guard_hyp L2); intro L2 cl2 w hL2 hM2 hS) | ((fail_if_success guard_hyp L3); intro L3 cl3 w hL3 hM3 hS) | ((fail_if_success guard_hyp L4); intro L4 cl4 w hL4 hM4 hS) | fail)) | ((first | (refine oB ?_; first | refine sB1 hS rfl rfl ?_ | refine sB2 hS rfl rfl ?_)); clear hS; first | ((fail_if_success guard_hyp g1); intro g1 w hS) | ((fail_if_success guard_hyp g2); intro g2 w hS) | ((fail_if_success guard_hyp g3); intro g3 w hS) | fail) | fail)
  go_loopw [5] (fun s5 wr => ∃ (m : Nat), m ≤ ps.length ∧ s5 = .int .i64 m ∧ Hid (posI ps pn m = posI ps pn ps.length) ∧ St w0 NoM [blk g1 [.int .i64 pn, v1] 27] wr) (fun s5 _ => (intOf s5).toNat)
  case atStart => exact ⟨ps.length, Nat.le_refl _, rfl, Lib.hid rfl, hS⟩
  case round =>
    clear hS
    obtain ⟨m, hm, rfl, HI, hS⟩ := hrel
    by_cases hm0 : 0 < m
    · obtain ⟨j, rfl⟩ : ∃ j, m = j + 1 := ⟨m - 1, by omega⟩
      obtain ⟨b, o, v, rfl, _, hc0, _, _, _⟩ := pg_cells HR.out HP.out.1 HP.out.2.1 (j := j) (by omega)
      have HI2 := Lib.hid ((posI_succ ps pn j).symm.trans HI.out)
      have hjl : (j : Int) < ps.length := by omega
      clear HI
      generalize (ps.getD j (0, [])).1 = nm at *
      by_cases he : pn < nm
      · have HE := Lib.hid (show posI ps pn j = posI ps pn ps.length from (by rw [← HI2.out, if_pos he]))
        go_upto_region 2 with (first | (refine oP ?_; ((first | refine sP1 hS rfl rfl rfl ?_ | refine sP2 hS rfl rfl rfl ?_ | refine sP3 hS rfl rfl rfl ?_); clear hS; first | ((fail_if_success guard_hyp L1); intro L1 cl1 w hL1 hM1 hS) | ((fail_if_success guard_hyp L2); intro L2 cl2 w hL2 hM2 hS) | ((fail_if_success guard_hyp L3); intro L3 cl3 w hL3 hM3 hS) | ((fail_if_success guard_hyp L4); intro L4 cl4 w hL4 hM4 hS) | fail)) | ((first | (refine oB ?_; first | refine sB1 hS rfl rfl ?_ | refine sB2 hS rfl rfl ?_)); clear hS; first | ((fail_if_success guard_hyp g1); intro g1 w hS) | ((fail_if_success guard_hyp g2); intro g2 w hS) | ((fail_if_success guard_hyp g3); intro g3 w hS) | fail) | fail)
        refine dr_start0 []  hS (by kernel_rfl) rfl ?_; clear hS; intro w hS
        refine dM hS 0 rfl rfl rfl ?_
        (try simp only [Act.put, nA, nB, nC])
        refine dP hS 1 rfl rfl ?_
        (try simp only [Act.put, nA, nB, nC])
        refine dM hS 2 rfl rfl rfl ?_
        (try simp only [Act.put, nA, nB, nC])
        first | refine dM hS 3 rfl rfl rfl ?_ | refine dQ hS 3 rfl rfl ?_
        (try simp only [Act.put, nA, nB, nC])
        first | refine dM hS 4 rfl rfl rfl ?_ | refine dQ hS 4 rfl rfl ?_
        (try simp only [Act.put, nA, nB, nC])
        first | refine dP hS 5 rfl rfl ?_ | refine dQ hS 5 rfl rfl ?_
        (try simp only [Act.put, nA, nB, nC])
        first | refine dP hS 6 rfl rfl ?_ | refine dQ hS 6 rfl rfl ?_
        (try simp only [Act.put, nA, nB, nC])
        first | refine dP hS 7 rfl rfl ?_ | refine dQ hS 7 rfl rfl ?_
        (try simp only [Act.put, nA, nB, nC])
        first | refine dL1 hS 8 rfl rfl rfl rfl ?_ | refine dL2 hS 8 rfl rfl rfl rfl ?_ | refine dL3 hS 8 rfl rfl rfl ?_ | refine dL4 hS 8 rfl rfl rfl ?_ | refine dL5 hS 8 rfl rfl rfl ?_ | refine dL6 hS 8 rfl rfl rfl ?_ | refine dL7 hS 8 rfl rfl rfl ?_ | refine dQ hS 8 rfl rfl ?_
        (try simp only [Act.put, nA, nB, nC])
        first | refine dP hS 9 rfl rfl ?_ | refine dQ hS 9 rfl rfl ?_
        (try simp only [Act.put, nA, nB, nC])
        first | refine dL1 hS 10 rfl rfl rfl rfl ?_ | refine dL2 hS 10 rfl rfl rfl rfl ?_ | refine dL3 hS 10 rfl rfl rfl ?_ | refine dL4 hS 10 rfl rfl rfl ?_ | refine dL5 hS 10 rfl rfl rfl ?_ | refine dL6 hS 10 rfl rfl rfl ?_ | refine dL7 hS 10 rfl rfl rfl ?_ | refine dQ hS 10 rfl rfl ?_
        (try simp only [Act.put, nA, nB, nC])
        first | refine dP hS 11 rfl rfl ?_ | refine dQ hS 11 rfl rfl ?_
        (try simp only [Act.put, nA, nB, nC])
        refine dP hS 12 rfl rfl ?_
        (try simp only [Act.put, nA, nB, nC])
        refine dr_done (by kernel_rfl) ?_
        go_wp2_with (first | (refine oP ?_; ((first | refine sP1 hS rfl rfl rfl ?_ | refine sP2 hS rfl rfl rfl ?_ | refine sP3 hS rfl rfl rfl ?_); clear hS; first | ((fail_if_success guard_hyp L1); intro L1 cl1 w hL1 hM1 hS) | ((fail_if_success guard_hyp L2); intro L2 cl2 w hL2 hM2 hS) | ((fail_if_success guard_hyp L3); intro L3 cl3 w hL3 hM3 hS) | ((fail_if_success guard_hyp L4); intro L4 cl4 w hL4 hM4 hS) | fail)) | ((first | (refine oB ?_; first | refine sB1 hS rfl rfl ?_ | refine sB2 hS rfl rfl ?_)); clear hS; first | ((fail_if_success guard_hyp g1); intro g1 w hS) | ((fail_if_success guard_hyp g2); intro g2 w hS) | ((fail_if_success guard_hyp g3); intro g3 w hS) | fail) | fail)
        go_roundw
        case measure => simp [intOf]; try omega
        exact ⟨j, by omega, by go_num, HE, hS.re⟩
      · have HPO := Lib.hid (show posI ps pn ps.length = j + 1 from (by rw [← HI2.out, if_neg he]))
        go_upto_region 2 with (first | (refine oP ?_; ((first | refine sP1 hS rfl rfl rfl ?_ | refine sP2 hS rfl rfl rfl ?_ | refine sP3 hS rfl rfl rfl ?_); clear hS; first | ((fail_if_success guard_hyp L1); intro L1 cl1 w hL1 hM1 hS) | ((fail_if_success guard_hyp L2); intro L2 cl2 w hL2 hM2 hS) | ((fail_if_success guard_hyp L3); intro L3 cl3 w hL3 hM3 hS) | ((fail_if_success guard_hyp L4); intro L4 cl4 w hL4 hM4 hS) | fail)) | ((first | (refine oB ?_; first | refine sB1 hS rfl rfl ?_ | refine sB2 hS rfl rfl ?_)); clear hS; first | ((fail_if_success guard_hyp g1); intro g1 w hS) | ((fail_if_success guard_hyp g2); intro g2 w hS) | ((fail_if_success guard_hyp g3); intro g3 w hS) | fail) | fail)
        refine dr_start0 []  hS (by kernel_rfl) rfl ?_; clear hS; intro w hS
        refine dM hS 0 rfl rfl rfl ?_
        (try simp only [Act.put, nA, nB, nC])
        refine dP hS 1 rfl rfl ?_
        (try simp only [Act.put, nA, nB, nC])
        refine dM hS 2 rfl rfl rfl ?_
        (try simp only [Act.put, nA, nB, nC])
        first | refine dM hS 3 rfl rfl rfl ?_ | refine dQ hS 3 rfl rfl ?_
        (try simp only [Act.put, nA, nB, nC])
        first | refine dM hS 4 rfl rfl rfl ?_ | refine dQ hS 4 rfl rfl ?_
        (try simp only [Act.put, nA, nB, nC])
        first | refine dP hS 5 rfl rfl ?_ | refine dQ hS 5 rfl rfl ?_
        (try simp only [Act.put, nA, nB, nC])
        first | refine dP hS 6 rfl rfl ?_ | refine dQ hS 6 rfl rfl ?_
        (try simp only [Act.put, nA, nB, nC])
        first | refine dP hS 7 rfl rfl ?_ | refine dQ hS 7 rfl rfl ?_
        (try simp only [Act.put, nA, nB, nC])
        first | refine dL1 hS 8 rfl rfl rfl rfl ?_ | refine dL2 hS 8 rfl rfl rfl rfl ?_ | refine dL3 hS 8 rfl rfl rfl ?_ | refine dL4 hS 8 rfl rfl rfl ?_ | refine dL5 hS 8 rfl rfl rfl ?_ | refine dL6 hS 8 rfl rfl rfl ?_ | refine dL7 hS 8 rfl rfl rfl ?_ | refine dQ hS 8 rfl rfl ?_
        (try simp only [Act.put, nA, nB, nC])
        first | refine dP hS 9 rfl rfl ?_ | refine dQ hS 9 rfl rfl ?_
        (try simp only [Act.put, nA, nB, nC])
        first | refine dL1 hS 10 rfl rfl rfl rfl ?_ | refine dL2 hS 10 rfl rfl rfl rfl ?_ | refine dL3 hS 10 rfl rfl rfl ?_ | refine dL4 hS 10 rfl rfl rfl ?_ | refine dL5 hS 10 rfl rfl rfl ?_ | refine dL6 hS 10 rfl rfl rfl ?_ | refine dL7 hS 10 rfl rfl rfl ?_ | refine dQ hS 10 rfl rfl ?_
        (try simp only [Act.put, nA, nB, nC])
        first | refine dP hS 11 rfl rfl ?_ | refine dQ hS 11 rfl rfl ?_
        (try simp only [Act.put, nA, nB, nC])
        refine dP hS 12 rfl rfl ?_
        (try simp only [Act.put, nA, nB, nC])
        refine dr_done (by kernel_rfl) ?_
        generalize j + 1 = m at *
        have HM := Lib.hid (show insL ps (pn, pl) = ps.take m ++ (pn, pl) :: ps.drop m by unfold insL; rw [show posI ps (pn, pl).1 ps.length = m from HPO.out])
        have HRS := Lib.hid (insL_reps HP.out.2.1 HP.out.2.2.1 rfl m)
        have HCUT := Lib.hid (And.intro (HP.out.2.1.cut m).1.length (HP.out.2.1.cut m).2.length)
        have htl : (vs.take (m * 2)).length = m * 2 := by rw [List.length_take]; omega
        have hdl : (vs.drop (m * 2)).length = (ps.length - m) * 2 := by rw [List.length_drop]; omega
        have HTV := Lib.hid (HP.out.1.take2 (m * 2))
        have HFV := Lib.hid (HP.out.1.fromA hvl hc m)
        have HO := Lib.hid (HP.out.2.1.all (HR.out.one))
        have HO1 := Lib.hid (fun u (hu : u ∈ vs.take (m * 2)) => HO.out u (List.mem_of_mem_take hu))
        have HO2 := Lib.hid (fun u (hu : u ∈ vs.drop (m * 2)) => HO.out u (List.mem_of_mem_drop hu))
        generalize vs.take (m * 2) = va at *
        generalize vs.drop (m * 2) = vb at *
        obtain ⟨FA, hFA⟩ : ∃ FA, FA = fromA (some ⟨b, o, none⟩) m c 2 := ⟨_, rfl⟩
        rw [← hFA] at HFV
        have HFA := Lib.hid hFA
        clear hFA
        have HL := Lib.hid (And.intro htl hdl)
        have HN := Lib.hid (show m + 1 + (ps.length - m) = (insL ps (pn, pl)).length by rw [insL_length]; omega)
        clear htl hdl
        go_wp2_with (first | (refine oTo ?_; refine sTo Try.underlying22 (by kernel_rfl) HA.out HB.out hm hc rfl rfl rfl ?_) | (refine oP ?_; refine st_appN hS rfl rfl rfl (HTV.out.into (hS.into fun _ _ => id)) HL.out.1 HO1.out (by omega) ?_; clear hS; intro L1 cl1 w hL1 hM1 hS) | (refine oP ?_; ((first | refine sP1 hS rfl rfl rfl ?_ | refine sP2 hS rfl rfl rfl ?_ | refine sP3 hS rfl rfl rfl ?_); clear hS; first | ((fail_if_success guard_hyp L1); intro L1 cl1 w hL1 hM1 hS) | ((fail_if_success guard_hyp L2); intro L2 cl2 w hL2 hM2 hS) | ((fail_if_success guard_hyp L3); intro L3 cl3 w hL3 hM3 hS) | ((fail_if_success guard_hyp L4); intro L4 cl4 w hL4 hM4 hS) | fail)) | ((first | (refine oB ?_; first | refine sB1 hS rfl rfl ?_ | refine sB2 hS rfl rfl ?_)); clear hS; first | ((fail_if_success guard_hyp g1); intro g1 w hS) | ((fail_if_success guard_hyp g2); intro g2 w hS) | ((fail_if_success guard_hyp g3); intro g3 w hS) | fail) | fail)
        refine dr_start1 [] 0 hS (by kernel_rfl) rfl ?_; clear hS; intro w hS
        refine dM hS 0 rfl rfl rfl ?_
        (try simp only [Act.put, nA, nB, nC])
        first | refine dL1 hS 1 rfl rfl rfl rfl ?_ | refine dL2 hS 1 rfl rfl rfl rfl ?_ | refine dL3 hS 1 rfl rfl rfl ?_ | refine dL4 hS 1 rfl rfl rfl ?_ | refine dL5 hS 1 rfl rfl rfl ?_ | refine dL6 hS 1 rfl rfl rfl ?_ | refine dL7 hS 1 rfl rfl rfl ?_
        (try simp only [Act.put, nA, nB, nC])
        refine dM hS 4 rfl rfl rfl ?_
        (try simp only [Act.put, nA, nB, nC])
        refine dM hS 5 rfl rfl rfl ?_
        (try simp only [Act.put, nA, nB, nC])
        first | refine dFrom HFA.out Try.underlying22 (by kernel_rfl) HA.out HB.out hm hc hS 6 rfl rfl rfl rfl ?_ | refine dP hS 6 rfl rfl ?_
        (try simp only [Act.put, nA, nB, nC])
        refine dr_one 2 (by kernel_rfl) rfl ?_
        ((first | refine sC0 hS rfl ?_ | refine sC1 hS rfl rfl ?_ | refine sC2 hS rfl rfl ?_ | refine sC3 hS rfl rfl rfl ?_ | refine sC4 hS rfl rfl rfl ?_); clear hS; first | ((fail_if_success guard_hyp g1); intro g1 w hS) | ((fail_if_success guard_hyp g2); intro g2 w hS) | ((fail_if_success guard_hyp g3); intro g3 w hS) | fail)
        (try simp only [Act.put, nA, nB, nC])
        refine dr_end hS ?_
        refine dr_one 3 (by kernel_rfl) rfl ?_
        (refine oP ?_; refine sP2 hS rfl rfl rfl ?_ rfl (one2 hv1) (by omega); clear hS; intro L2 cl2 w hL2 hM2 hS)
        (try simp only [Act.put, nA, nB, nC])
        refine dr_end hS ?_
        refine dr_one 7 (by kernel_rfl) rfl ?_
        (refine oP ?_; refine st_appG hS rfl rfl rfl (HFV.out.into (hS.into fun _ _ => id)) HL.out.2 HO2.out (by omega) ?_; clear hS; intro L3 cl3 w hL3 hM3 hS)
        (try simp only [Act.put, nA, nB, nC])
        refine dr_end hS ?_
        refine dA hS 8 rfl rfl rfl ?_
        (try simp only [Act.put, nA, nB, nC])
        refine dr_done (by kernel_rfl) ?_
        go_wp2_with (first | (refine oP ?_; ((first | refine sP1 hS rfl rfl rfl ?_ | refine sP2 hS rfl rfl rfl ?_ | refine sP3 hS rfl rfl rfl ?_); clear hS; first | ((fail_if_success guard_hyp L1); intro L1 cl1 w hL1 hM1 hS) | ((fail_if_success guard_hyp L2); intro L2 cl2 w hL2 hM2 hS) | ((fail_if_success guard_hyp L3); intro L3 cl3 w hL3 hM3 hS) | ((fail_if_success guard_hyp L4); intro L4 cl4 w hL4 hM4 hS) | fail)) | ((first | (refine oB ?_; first | refine sB1 hS rfl rfl ?_ | refine sB2 hS rfl rfl ?_)); clear hS; first | ((fail_if_success guard_hyp g1); intro g1 w hS) | ((fail_if_success guard_hyp g2); intro g2 w hS) | ((fail_if_success guard_hyp g3); intro g3 w hS) | fail) | fail)
        go_ret
        refine ⟨_, HM.out ▸ HRS.out, ?_⟩
        rw [← HN.out]
        exact hS.ret rfl
    · have HPO := Lib.hid (show posI ps pn ps.length = m from HI.out.symm.trans (by obtain rfl : m = 0 := (by omega); rfl))
      have dk : decide ((0 : Int) < (m : Int)) = false := decide_eq_false (by omega)
      have dkn : decide (0 < m) = false := decide_eq_false hm0
      go_upto_region 2 with (first | (refine oP ?_; ((first | refine sP1 hS rfl rfl rfl ?_ | refine sP2 hS rfl rfl rfl ?_ | refine sP3 hS rfl rfl rfl ?_); clear hS; first | ((fail_if_success guard_hyp L1); intro L1 cl1 w hL1 hM1 hS) | ((fail_if_success guard_hyp L2); intro L2 cl2 w hL2 hM2 hS) | ((fail_if_success guard_hyp L3); intro L3 cl3 w hL3 hM3 hS) | ((fail_if_success guard_hyp L4); intro L4 cl4 w hL4 hM4 hS) | fail)) | ((first | (refine oB ?_; first | refine sB1 hS rfl rfl ?_ | refine sB2 hS rfl rfl ?_)); clear hS; first | ((fail_if_success guard_hyp g1); intro g1 w hS) | ((fail_if_success guard_hyp g2); intro g2 w hS) | ((fail_if_success guard_hyp g3); intro g3 w hS) | fail) | fail)
      refine dr_start0 []  hS (by kernel_rfl) rfl ?_; clear hS; intro w hS
      refine dM hS 0 rfl rfl rfl ?_
      (try simp only [Act.put, nA, nB, nC])
      first | refine dP hS 1 rfl rfl ?_; (first | rw [dk] | rw [dkn]) | refine dP hS 1 rfl rfl ?_
      (try simp only [Act.put, nA, nB, nC])
      refine dM hS 2 rfl rfl rfl ?_
      (try simp only [Act.put, nA, nB, nC])
      first | refine dM hS 3 rfl rfl rfl ?_ | refine dQ hS 3 rfl rfl ?_
      (try simp only [Act.put, nA, nB, nC])
      first | refine dM hS 4 rfl rfl rfl ?_ | refine dQ hS 4 rfl rfl ?_
      (try simp only [Act.put, nA, nB, nC])
      first | refine dP hS 5 rfl rfl ?_ | refine dQ hS 5 rfl rfl ?_
      (try simp only [Act.put, nA, nB, nC])
      first | refine dP hS 6 rfl rfl ?_ | refine dQ hS 6 rfl rfl ?_
      (try simp only [Act.put, nA, nB, nC])
      first | refine dP hS 7 rfl rfl ?_ | refine dQ hS 7 rfl rfl ?_
      (try simp only [Act.put, nA, nB, nC])
      first | refine dL1 hS 8 rfl rfl rfl rfl ?_ | refine dL2 hS 8 rfl rfl rfl rfl ?_ | refine dL3 hS 8 rfl rfl rfl ?_ | refine dL4 hS 8 rfl rfl rfl ?_ | refine dL5 hS 8 rfl rfl rfl ?_ | refine dL6 hS 8 rfl rfl rfl ?_ | refine dL7 hS 8 rfl rfl rfl ?_ | refine dQ hS 8 rfl rfl ?_
      (try simp only [Act.put, nA, nB, nC])
      first | refine dP hS 9 rfl rfl ?_ | refine dQ hS 9 rfl rfl ?_
      (try simp only [Act.put, nA, nB, nC])
      first | refine dL1 hS 10 rfl rfl rfl rfl ?_ | refine dL2 hS 10 rfl rfl rfl rfl ?_ | refine dL3 hS 10 rfl rfl rfl ?_ | refine dL4 hS 10 rfl rfl rfl ?_ | refine dL5 hS 10 rfl rfl rfl ?_ | refine dL6 hS 10 rfl rfl rfl ?_ | refine dL7 hS 10 rfl rfl rfl ?_ | refine dQ hS 10 rfl rfl ?_
      (try simp only [Act.put, nA, nB, nC])
      first | refine dP hS 11 rfl rfl ?_ | refine dQ hS 11 rfl rfl ?_
      (try simp only [Act.put, nA, nB, nC])
      refine dP hS 12 rfl rfl ?_
      (try simp only [Act.put, nA, nB, nC])
      refine dr_done (by kernel_rfl) ?_
      have HM := Lib.hid (show insL ps (pn, pl) = ps.take m ++ (pn, pl) :: ps.drop m by unfold insL; rw [show posI ps (pn, pl).1 ps.length = m from HPO.out])
      have HRS := Lib.hid (insL_reps HP.out.2.1 HP.out.2.2.1 rfl m)
      have HCUT := Lib.hid (And.intro (HP.out.2.1.cut m).1.length (HP.out.2.1.cut m).2.length)
      have htl : (vs.take (m * 2)).length = m * 2 := by rw [List.length_take]; omega
      have hdl : (vs.drop (m * 2)).length = (ps.length - m) * 2 := by rw [List.length_drop]; omega
      have HTV := Lib.hid (HP.out.1.take2 (m * 2))
      have HFV := Lib.hid (HP.out.1.fromA hvl hc m)
      have HO := Lib.hid (HP.out.2.1.all (HR.out.one))
      have HO1 := Lib.hid (fun u (hu : u ∈ vs.take (m * 2)) => HO.out u (List.mem_of_mem_take hu))
      have HO2 := Lib.hid (fun u (hu : u ∈ vs.drop (m * 2)) => HO.out u (List.mem_of_mem_drop hu))
      generalize vs.take (m * 2) = va at *
      generalize vs.drop (m * 2) = vb at *
      obtain ⟨FA, hFA⟩ : ∃ FA, FA = fromA A m c 2 := ⟨_, rfl⟩
      rw [← hFA] at HFV
      have HFA := Lib.hid hFA
      clear hFA
      have HL := Lib.hid (And.intro htl hdl)
      have HN := Lib.hid (show m + 1 + (ps.length - m) = (insL ps (pn, pl)).length by rw [insL_length]; omega)
      clear htl hdl
      go_wp2_with (first | (refine oTo ?_; refine sTo Try.underlying22 (by kernel_rfl) HA.out HB.out hm hc rfl rfl rfl ?_) | (refine oP ?_; refine st_appN hS rfl rfl rfl (HTV.out.into (hS.into fun _ _ => id)) HL.out.1 HO1.out (by omega) ?_; clear hS; intro L1 cl1 w hL1 hM1 hS) | (refine oP ?_; ((first | refine sP1 hS rfl rfl rfl ?_ | refine sP2 hS rfl rfl rfl ?_ | refine sP3 hS rfl rfl rfl ?_); clear hS; first | ((fail_if_success guard_hyp L1); intro L1 cl1 w hL1 hM1 hS) | ((fail_if_success guard_hyp L2); intro L2 cl2 w hL2 hM2 hS) | ((fail_if_success guard_hyp L3); intro L3 cl3 w hL3 hM3 hS) | ((fail_if_success guard_hyp L4); intro L4 cl4 w hL4 hM4 hS) | fail)) | ((first | (refine oB ?_; first | refine sB1 hS rfl rfl ?_ | refine sB2 hS rfl rfl ?_)); clear hS; first | ((fail_if_success guard_hyp g1); intro g1 w hS) | ((fail_if_success guard_hyp g2); intro g2 w hS) | ((fail_if_success guard_hyp g3); intro g3 w hS) | fail) | fail)
      refine dr_start1 [] 0 hS (by kernel_rfl) rfl ?_; clear hS; intro w hS
      refine dM hS 0 rfl rfl rfl ?_
      (try simp only [Act.put, nA, nB, nC])
      first | refine dL1 hS 1 rfl rfl rfl rfl ?_ | refine dL2 hS 1 rfl rfl rfl rfl ?_ | refine dL3 hS 1 rfl rfl rfl ?_ | refine dL4 hS 1 rfl rfl rfl ?_ | refine dL5 hS 1 rfl rfl rfl ?_ | refine dL6 hS 1 rfl rfl rfl ?_ | refine dL7 hS 1 rfl rfl rfl ?_
      (try simp only [Act.put, nA, nB, nC])
      refine dM hS 4 rfl rfl rfl ?_
      (try simp only [Act.put, nA, nB, nC])
      refine dM hS 5 rfl rfl rfl ?_
      (try simp only [Act.put, nA, nB, nC])
      first | refine dFrom HFA.out Try.underlying22 (by kernel_rfl) HA.out HB.out hm hc hS 6 rfl rfl rfl rfl ?_ | refine dP hS 6 rfl rfl ?_
      (try simp only [Act.put, nA, nB, nC])
      refine dr_one 2 (by kernel_rfl) rfl ?_
      ((first | refine sC0 hS rfl ?_ | refine sC1 hS rfl rfl ?_ | refine sC2 hS rfl rfl ?_ | refine sC3 hS rfl rfl rfl ?_ | refine sC4 hS rfl rfl rfl ?_); clear hS; first | ((fail_if_success guard_hyp g1); intro g1 w hS) | ((fail_if_success guard_hyp g2); intro g2 w hS) | ((fail_if_success guard_hyp g3); intro g3 w hS) | fail)
      (try simp only [Act.put, nA, nB, nC])
      refine dr_end hS ?_
      refine dr_one 3 (by kernel_rfl) rfl ?_
      (refine oP ?_; refine sP2 hS rfl rfl rfl ?_ rfl (one2 hv1) (by omega); clear hS; intro L2 cl2 w hL2 hM2 hS)
      (try simp only [Act.put, nA, nB, nC])
      refine dr_end hS ?_
      refine dr_one 7 (by kernel_rfl) rfl ?_
      (refine oP ?_; refine st_appG hS rfl rfl rfl (HFV.out.into (hS.into fun _ _ => id)) HL.out.2 HO2.out (by omega) ?_; clear hS; intro L3 cl3 w hL3 hM3 hS)
      (try simp only [Act.put, nA, nB, nC])
      refine dr_end hS ?_
      refine dA hS 8 rfl rfl rfl ?_
      (try simp only [Act.put, nA, nB, nC])
      refine dr_done (by kernel_rfl) ?_
      go_wp2_with (first | (refine oP ?_; ((first | refine sP1 hS rfl rfl rfl ?_ | refine sP2 hS rfl rfl rfl ?_ | refine sP3 hS rfl rfl rfl ?_); clear hS; first | ((fail_if_success guard_hyp L1); intro L1 cl1 w hL1 hM1 hS) | ((fail_if_success guard_hyp L2); intro L2 cl2 w hL2 hM2 hS) | ((fail_if_success guard_hyp L3); intro L3 cl3 w hL3 hM3 hS) | ((fail_if_success guard_hyp L4); intro L4 cl4 w hL4 hM4 hS) | fail)) | ((first | (refine oB ?_; first | refine sB1 hS rfl rfl ?_ | refine sB2 hS rfl rfl ?_)); clear hS; first | ((fail_if_success guard_hyp g1); intro g1 w hS) | ((fail_if_success guard_hyp g2); intro g2 w hS) | ((fail_if_success guard_hyp g3); intro g3 w hS) | fail) | fail)
      go_ret
      refine ⟨_, HM.out ▸ HRS.out, ?_⟩
      rw [← HN.out]
      exact hS.ret rfl
end Go.Proofs.Ytmjmdncdmmcmaaa
