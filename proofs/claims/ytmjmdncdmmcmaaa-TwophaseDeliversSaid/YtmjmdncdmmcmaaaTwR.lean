/- twophase.Begin. Conditions: the pattern is a good one and lies in memory, the root is one of its processes. -/
import Derived.Test.YtmjmdncdmmcmaaaTwQ
import Derived.Test.YtmjmdncdmmcmaaaStartF
import Derived.Test.YtmjmdncdmmcmaaaMakers
import Derived.Deep.DeepCutAuto
namespace Go.Proofs.Ytmjmdncdmmcmaaa
open Go.RowKit Tph
set_option linter.unusedVariables false
set_option linter.unusedSimpArgs false
set_option linter.unusedSectionVars false

theorem intoTr {S S' S'' : Nat → Prop} {w w' w'' : World} (h : Into S S' w w') (k : Into S' S'' w' w'') : Into S S'' w w'' := fun b hb hl => by
  obtain ⟨h1, h2⟩ := h b hb hl
  have hl' : b < w'.heap.size := by
    have h3 : w'.heap[b]? = some w.heap[b] := h2.trans (Array.getElem?_eq_getElem hl)
    exact lt_of_block h3
  obtain ⟨h3, h4⟩ := k b h1 hl'
  exact ⟨h3, h4.trans h2⟩
/-- where the lists of a machine lie -/
structure TX where
  A1 : Option Addr
  c1 : Nat
  A2 : Option Addr
  c2 : Nat
  A3 : Option Addr
  c3 : Nat
  U : Option Addr
  uc : Nat
  P : Option Addr
  pc : Nat
  E : Option Addr
  ec : Nat
  W : Option Addr
  wc : Nat
  R : Option Addr
  rc : Nat
  C : Option Addr
  cc : Nat
  D : Option Addr
  dc : Nat
  F : Option Addr
  fc : Nat
def TX.pv (x : TX) : PV := ⟨x.A1, x.c1, x.A2, x.c2, x.A3, x.c3⟩
def TX.cells (x : TX) (p : Pat) (root n nf : Nat) : List Value := [.slice x.A1 p.len.length x.c1, .slice x.A2 p.ck.length x.c2, .slice x.A3 p.arcs.length x.c3, .int .i64 (root : Int), .slice x.U n x.uc, .slice x.P n x.pc, .slice x.E n x.ec, .slice x.W n x.wc, .slice x.R n x.rc, .slice x.C n x.cc, .slice x.D n x.dc, .slice x.F nf x.fc]
def TX.val (x : TX) (p : Pat) (root n nf : Nat) : Value := .agg (x.cells p root n nf).toArray
/-- a machine in memory -/
structure TpAt (S : Nat → Prop) (w : World) (x : TX) (p : Pat) (t : TS) : Prop where
  pat : PatAt S w x.pv p
  un : RV S w x.U (bools t.unw)
  par : RI S w x.P t.par
  tent : RV S w x.E (bools t.tent)
  aw : RI S w x.W t.aw
  ref : RV S w x.R (bools t.ref)
  ch : RW2 ReV S w x.C (t.ch.map nats)
  dec : RI S w x.D t.dec
  fl : RV S w x.F (ntc t.fl)
  fx : (x.F = none → t.fl.length = 0 ∧ x.fc = 0) ∧ (∀ a, x.F = some a → a.spot = none) ∧ t.fl.length ≤ x.fc ∧ x.fc ≤ 9223372036854775807
theorem TpAt.into {S S' : Nat → Prop} {w w' : World} {x : TX} {p : Pat} {t : TS} (h : TpAt S w x p t) (k : Into S S' w w') : TpAt S' w' x p t :=
  ⟨h.pat.into k, h.un.into k, h.par.into k, h.tent.into k, h.aw.into k, h.ref.into k, h.ch.into k (ReV.into k), h.dec.into k, h.fl.into k, h.fx⟩
theorem TpAt.ext {S : Nat → Prop} {w w' : World} {x : TX} {p : Pat} {t : TS} (h : TpAt S w x p t) (k : Ext w w') : TpAt S w' x p t := h.into (Into.ofExt k)
theorem TpAt.here {S : Nat → Prop} {w : World} {x : TX} {p : Pat} {t : TS} (h : TpAt S w x p t) : TpAt (fun k => S k ∧ k < w.heap.size) w x p t := h.into (fun k hk hl => ⟨⟨hk, hl⟩, rfl⟩)
theorem PatAt.hereT {S : Nat → Prop} {w : World} {v : PV} {p : Pat} (h : PatAt S w v p) : PatAt (fun k => S k ∧ k < w.heap.size) w v p := h.into (fun k hk hl => ⟨⟨hk, hl⟩, rfl⟩)
theorem own_fx {w : World} {e : TypeId} {sz n c : Nat} {A : Option Addr} {vs : List Value} (ho : w.ownsRow 0 e sz (.slice A n c) n vs) : vs.length = n * sz ∧ (A = none → n = 0 ∧ c = 0) ∧ (∀ a, A = some a → a.spot = none) ∧ n ≤ c ∧ c ≤ 9223372036854775807 := by
  obtain ⟨A', c', hv, h1, h2⟩ := own_form ho
  injection hv with e1 _ e2
  subst e1 e2
  refine ⟨ho.1, ?_, ?_, h1, h2⟩
  · rintro rfl
    rcases ho.2 with ⟨hv, h0⟩ | ⟨g, cap, cur, hv, _⟩
    · injection hv with _ _ h3; exact ⟨h0, h3⟩
    · injection hv with h3; cases h3
  · rintro a rfl
    rcases ho.2 with ⟨hv, h0⟩ | ⟨g, cap, cur, hv, _⟩
    · injection hv with h3; cases h3
    · injection hv with h3; injection h3 with h3; rw [h3]
/-- what Begin and Deliver return -/
def RetT (S : Nat → Prop) (w0 : World) (p : Pat) (n : Nat) (t : TS) (e : Ending) (w' : World) : Prop := ∃ x : TX, e = .returned (.tuple #[x.val p t.root n t.fl.length, .int .i64 0]) ∧ TpAt (Orn S w0) w' x p t ∧ Ext w0 w'
/-- who is unwilling -/
def unwOf (n : Nat) (us : List Int) : List Bool := (List.range n).map fun q : Nat => decide ((q : Int) ∈ us)
theorem unwOf_len (n : Nat) (us : List Int) : (unwOf n us).length = n := by simp [unwOf]
/-- the first q elements of a list, then others -/
def upto {α : Type} (l : List α) (q : Nat) (z : α) : List α := l.take q ++ List.replicate (l.length - q) z
theorem upto_zero {α : Type} (l : List α) (z : α) : upto l 0 z = List.replicate l.length z := by simp [upto]
theorem upto_all {α : Type} (l : List α) (z : α) : upto l l.length z = l := by simp [upto]
theorem upto_len {α : Type} (l : List α) (q : Nat) (z : α) (h : q ≤ l.length) : (upto l q z).length = l.length := by simp [upto]; omega
theorem upto_set {α : Type} (l : List α) (q : Nat) (z : α) (h : q < l.length) : (upto l q z).set q l[q] = upto l (q + 1) z := by
  unfold upto
  rw [List.set_append_right _ _ (by rw [List.length_take]; omega), List.length_take, Nat.min_eq_left (by omega), Nat.sub_self, show l.length - q = (l.length - (q + 1)) + 1 by omega, List.replicate_succ, List.set_cons_zero, List.take_succ_eq_append_getElem h, List.append_assoc]
  rfl
/-- make: all elements are the zero value, one cell each -/
theorem sMW {P : Program} {ops : Array Oper} {Q : Exit → Act → World → Prop} {a : Act} {w w0 : World} {M : Nat → Prop} {cs : List (Chunk w0 M)} {rest : List Oper} {d : Option Tmp} {tt ty e : TypeId} {pos : String} {af : Array Edge} {gd : Option (Nat × Bool)} {x y : Operand} {bytes n : Nat} {z1 z2 : Int} {u : Value} (hS : St w0 M cs w) [hT : ElemC P ty e 1 bytes] [hz : TyZ P e [u]] (hw : Region.wanted ⟨d, .makeSlice ty x y, tt, pos, af, gd⟩ (yielded ops a.tmps) = true)
    (hx' : oval a x = some (.int .i64 z1)) (hy' : oval a y = some (.int .i64 z2)) (h1 : z1 = n) (h2 : z2 = n) (hb : bytes * n ≤ 140737488355328)
    (k : ∀ g w', St w0 M (row (.slice (some ⟨g, 0, none⟩) n n) e 1 n (List.replicate n u) :: cs) w' → wpList P ops Q rest (a.put d (.slice (some ⟨g, 0, none⟩) n n)) w') : wpList P ops Q (⟨d, .makeSlice ty x y, tt, pos, af, gd⟩ :: rest) a w := by
  refine st_mkG (n := n) hS hw hx' hy' h1 h2 hb ?_
  intro g w' z hz' h
  have hzc : z.cells = #[u] := by
    have h3 := hz.zero
    cases hi : P.info? e with
    | none => rw [hi] at h3; cases h3
    | some i =>
      rw [hi] at h3 hz'
      simp only [Option.map_some, Option.some.injEq] at h3 hz'
      rw [hz'] at h3
      simp only [Option.map_some, Option.some.injEq] at h3
      exact Array.toList_inj.1 h3
  rw [made1 hzc, Nat.mul_one] at h
  exact k g w' h
theorem boolsR (n : Nat) : bools (List.replicate n false) = List.replicate n (.bool false) := by simp [bools]
theorem natsR (n : Nat) : (List.replicate n ([] : List Nat)).map nats = List.replicate n ([] : List Int) := by simp [nats]
abbrev tp0 : List Value := [.slice none 0 0, .slice none 0 0, .slice none 0 0, .int .i64 0, .slice none 0 0, .slice none 0 0, .slice none 0 0, .slice none 0 0, .slice none 0 0, .slice none 0 0, .slice none 0 0, .slice none 0 0]
/-- the machine after Begin -/
def begT (p : Pat) (r : Nat) (us : List Int) : TS := (TS.new p.len.length r (unwOf p.len.length us)).ask (srcL p) r r
set_option maxRecDepth 100000 in
set_option maxHeartbeats 6400000 in
theorem begin_any {S : Nat → Prop} (A1 : Option Addr) (c1 : Nat) (A2 : Option Addr) (c2 : Nat) (A3 : Option Addr) (c3 : Nat) (p : Pat) (n r : Nat) (UU : Option Addr) (un cu : Nat) (us : List Int) (w0 : World) (hp : PatAt S w0 ⟨A1, c1, A2, c2, A3, c3⟩ p) (hg : Good p) (hn : p.len.length = n) (hr : r < n) (hus : RI S w0 UU us) (hul : us.length = un) (hub : un ≤ 100000) :
    Calls Try.prog 32 #[.agg #[.slice A1 p.len.length c1, .slice A2 p.ck.length c2, .slice A3 p.arcs.length c3], .int .i64 (r : Int), .slice UU un cu] w0 (RetT S w0 p n (begT p r us)) := by
  subst hn
  have hS := St.startF w0 S
  have hn5 := hg.n5
  have HP := Lib.hid (And.intro hp.hereT hg)
  have HU := Lib.hid (And.intro (RV.here hus) hul)
  have HUL := Lib.hid (unwOf_len p.len.length us)
  have HR := Lib.hid hr
  clear hp hg hus hul
  generalize hn : p.len.length = n at *
  have HN := Lib.hid hn
  have d0 : decide ((r : Int) < 0) = false := decide_eq_false (by omega)
  have d1 : decide ((n : Int) ≤ (r : Int)) = false := decide_eq_false (by omega)
  have d1n : decide (n ≤ r) = false := decide_eq_false (by omega)
  have hun1 : un ≤ 1000000 := by omega
  clear hn hr
  go_enter Try.func32, Try.ntmps32
  go_wp2_with (first | (go_at_call 61; rw [← HN.out]; refine (check_good ⟨A1, c1, A2, c2, A3, c3⟩ p _ (HP.out.1.into hS.frozInto) HP.out.2).mono ?_; rintro e w ⟨rfl, hx1⟩; replace hS := hS.ext hx1; clear hx1; try rw [HN.out]) | (refine oL ?_; (first | refine sL1 hS rfl rfl rfl ?_ | refine sL2 hS rfl rfl rfl ?_)) | ((first | (refine oB ?_; (refine sB1 hS rfl rfl ?_)) | refine sN1 hS rfl ?_); clear hS; first | ((fail_if_success guard_hyp g1); intro g1 w hS) | ((fail_if_success guard_hyp g2); intro g2 w hS)))
  refine dr_start0 []  hS (by kernel_rfl) rfl ?_; clear hS; intro w hS
  (refine dL2 hS 0 rfl rfl rfl rfl ?_)
  (try simp only [Act.put, nA, nB, nC])
  refine dM hS 1 rfl rfl rfl ?_
  (try simp only [Act.put, nA, nB, nC])
  refine dM hS 2 rfl rfl rfl ?_
  (try simp only [Act.put, nA, nB, nC])
  refine dM hS 4 rfl rfl rfl ?_
  (try simp only [Act.put, nA, nB, nC])
  refine dM hS 6 rfl rfl rfl ?_
  (try simp only [Act.put, nA, nB, nC])
  refine dM hS 8 rfl rfl rfl ?_
  (try simp only [Act.put, nA, nB, nC])
  refine dM hS 10 rfl rfl rfl ?_
  (try simp only [Act.put, nA, nB, nC])
  refine dM hS 12 rfl rfl rfl ?_
  (try simp only [Act.put, nA, nB, nC])
  refine dM hS 14 rfl rfl rfl ?_
  (try simp only [Act.put, nA, nB, nC])
  refine dr_makers0 (ds := [32, 34, 36, 38, 40, 42, 44]) (a0 := _) 7 [⟨3, 32, fun v => row v 4 1 n (bools (List.replicate n false)), fun v => ∃ g, v = .slice (some ⟨g, 0, none⟩) n n⟩, ⟨5, 34, fun v => row v 3 1 n (ints (List.replicate n 0)), fun v => ∃ g, v = .slice (some ⟨g, 0, none⟩) n n⟩, ⟨7, 36, fun v => row v 4 1 n (bools (List.replicate n false)), fun v => ∃ g, v = .slice (some ⟨g, 0, none⟩) n n⟩, ⟨9, 38, fun v => row v 3 1 n (ints (List.replicate n 0)), fun v => ∃ g, v = .slice (some ⟨g, 0, none⟩) n n⟩, ⟨11, 40, fun v => row v 4 1 n (bools (List.replicate n false)), fun v => ∃ g, v = .slice (some ⟨g, 0, none⟩) n n⟩, ⟨13, 42, fun v => row v 25 1 n (List.replicate n (.slice none 0 0)), fun v => ∃ g, v = .slice (some ⟨g, 0, none⟩) n n⟩, ⟨15, 44, fun v => row v 3 1 n (ints (List.replicate n 0)), fun v => ∃ g, v = .slice (some ⟨g, 0, none⟩) n n⟩] rfl _ _ _ _ (MkrsOk.mk' ?_ (by kernel_rfl) (by kernel_rfl) (by simp) (by simp) (by kernel_rfl)) (fun _ _ => rfl) hS (fun c hc => hc) ?_
  · intro m hm
    simp only [List.mem_cons, List.not_mem_nil, or_false] at hm
    rcases hm with rfl | rfl | rfl | rfl | rfl | rfl | rfl
    · exact ⟨_, rfl, fun cs a w K hL hS k => sMW hS rfl (hL.oval rfl rfl) (hL.oval rfl rfl) rfl rfl (by omega) (fun g w' hS' => wpList_nil (k _ _ ⟨g, rfl⟩ (by rw [boolsR]; exact hS')))⟩
    · exact ⟨_, rfl, fun cs a w K hL hS k => sMW hS rfl (hL.oval rfl rfl) (hL.oval rfl rfl) rfl rfl (by omega) (fun g w' hS' => wpList_nil (k _ _ ⟨g, rfl⟩ (by rw [ints_replicate]; exact hS')))⟩
    · exact ⟨_, rfl, fun cs a w K hL hS k => sMW hS rfl (hL.oval rfl rfl) (hL.oval rfl rfl) rfl rfl (by omega) (fun g w' hS' => wpList_nil (k _ _ ⟨g, rfl⟩ (by rw [boolsR]; exact hS')))⟩
    · exact ⟨_, rfl, fun cs a w K hL hS k => sMW hS rfl (hL.oval rfl rfl) (hL.oval rfl rfl) rfl rfl (by omega) (fun g w' hS' => wpList_nil (k _ _ ⟨g, rfl⟩ (by rw [ints_replicate]; exact hS')))⟩
    · exact ⟨_, rfl, fun cs a w K hL hS k => sMW hS rfl (hL.oval rfl rfl) (hL.oval rfl rfl) rfl rfl (by omega) (fun g w' hS' => wpList_nil (k _ _ ⟨g, rfl⟩ (by rw [boolsR]; exact hS')))⟩
    · exact ⟨_, rfl, fun cs a w K hL hS k => sMW hS rfl (hL.oval rfl rfl) (hL.oval rfl rfl) rfl rfl (by omega) (fun g w' hS' => wpList_nil (k _ _ ⟨g, rfl⟩ hS'))⟩
    · exact ⟨_, rfl, fun cs a w K hL hS k => sMW hS rfl (hL.oval rfl rfl) (hL.oval rfl rfl) rfl rfl (by omega) (fun g w' hS' => wpList_nil (k _ _ ⟨g, rfl⟩ (by rw [ints_replicate]; exact hS')))⟩
  · intro us7 w' hus7 hS'
    match us7, hus7 with
    | [_, _, _, _, _, _, _], ⟨⟨q1, rfl⟩, ⟨q2, rfl⟩, ⟨q3, rfl⟩, ⟨q4, rfl⟩, ⟨q5, rfl⟩, ⟨q6, rfl⟩, ⟨q7, rfl⟩, _⟩ =>
    simp only [pczM, lstM, putsM, List.cons_append, List.nil_append] at hS' ⊢
    (try simp only [Act.put, nA, nB, nC])
    clear hS
    have hS := hS'
    clear hS'
    refine dP hS 16 rfl rfl ?_
    (try simp only [Act.put, nA, nB, nC])
    refine dP hS 17 rfl rfl ?_
    (try simp only [Act.put, nA, nB, nC])
    refine dr_one 18 (by kernel_rfl) rfl ?_
    (((refine sB1 hS rfl rfl ?_)); clear hS; (((fail_if_success guard_hyp g3); intro g3 w hS)))
    (try simp only [Act.put, nA, nB, nC])
    refine dr_end hS ?_
    refine dA hS 19 rfl rfl rfl ?_
    (try simp only [Act.put, nA, nB, nC])
    refine dr_done (by kernel_rfl) ?_
    (try simp only [Act.put, nA, nB, nC])
    go_wp2_with (fail)
    go_loopw [11, 49] (fun s11 s49 wr => ∃ q : Nat, q ≤ n ∧ s49 = .int .i64 q ∧ St w0 (fun k => S k ∧ k < w0.heap.size) (froz (fun k => S k ∧ k < w0.heap.size) w0 :: blk g3 [.slice A1 n c1, .slice A2 p.ck.length c2, .slice A3 p.arcs.length c3, .int .i64 (r : Int), .slice (some ⟨q1, 0, none⟩) n n, .slice (some ⟨q2, 0, none⟩) n n, .slice (some ⟨q3, 0, none⟩) n n, .slice (some ⟨q4, 0, none⟩) n n, .slice (some ⟨q5, 0, none⟩) n n, .slice (some ⟨q6, 0, none⟩) n n, .slice (some ⟨q7, 0, none⟩) n n, .slice none 0 0] 91 :: row (.slice (some ⟨q1, 0, none⟩) n n) 4 1 n (bools (upto (unwOf n us) q false)) :: row (.slice (some ⟨q2, 0, none⟩) n n) 3 1 n (ints (upto (List.replicate n (-1)) q 0)) :: row (.slice (some ⟨q3, 0, none⟩) n n) 4 1 n (bools (List.replicate n false)) :: row (.slice (some ⟨q4, 0, none⟩) n n) 3 1 n (ints (List.replicate n 0)) :: row (.slice (some ⟨q5, 0, none⟩) n n) 4 1 n (bools (List.replicate n false)) :: row (.slice (some ⟨q6, 0, none⟩) n n) 25 1 n (List.replicate n (.slice none 0 0)) :: row (.slice (some ⟨q7, 0, none⟩) n n) 3 1 n (ints (List.replicate n 0)) :: blk g2 tp0 55 :: []) wr) (fun _ s49 _ => n - (intOf s49).toNat)
    case atStart => exact ⟨0, by omega, rfl, by rw [upto_zero, upto_zero, HUL.out, List.length_replicate]; exact hS.re⟩
    case round =>
      clear hS
      obtain ⟨q, hq, rfl, hS⟩ := hrel
      by_cases hlt : q < n
      · have hlt' : (q : Int) < (n : Int) := by omega
        have hq1 : q < (upto (unwOf n us) q false).length := by rw [upto_len _ _ _ (by rw [HUL.out]; omega), HUL.out]; exact hlt
        have hq2 : q < (upto (List.replicate n (-1 : Int)) q 0).length := by rw [upto_len _ _ _ (by rw [List.length_replicate]; omega), List.length_replicate]; exact hlt
        have HS1 := Lib.hid (upto_set (unwOf n us) q false (by rw [HUL.out]; exact hlt))
        have HS2 := Lib.hid (upto_set (List.replicate n (-1 : Int)) q 0 (by rw [List.length_replicate]; exact hlt))
        have HUQ := Lib.hid (show (unwOf n us)[q]'(by rw [HUL.out]; exact hlt) = decide ((q : Int) ∈ us) by simp [unwOf])
        have HRQ := Lib.hid (show (List.replicate n (-1 : Int))[q]'(by rw [List.length_replicate]; exact hlt) = -1 by simp)
        rw [HUQ.out] at HS1
        rw [HRQ.out] at HS2
        obtain ⟨bb, hbb⟩ : ∃ bb, decide ((q : Int) ∈ us) = bb := ⟨_, rfl⟩
        rw [hbb] at HS1
        have HBB := Lib.hid hbb
        clear HUQ HRQ hbb
        go_wp2_with (fail)
        refine dr_start1 [10] 2 hS (by kernel_rfl) rfl ?_; clear hS; intro w hS
        refine dM hS 0 rfl rfl rfl ?_
        (try simp only [Act.put, nA, nB, nC])
        refine dP hS 1 rfl rfl ?_
        (try simp only [Act.put, nA, nB, nC])
        refine dP hS 2 rfl rfl ?_
        (try simp only [Act.put, nA, nB, nC])
        refine dP hS 3 rfl rfl ?_
        (try simp only [Act.put, nA, nB, nC])
        (refine dL1 hS 4 rfl rfl rfl rfl ?_)
        (try simp only [Act.put, nA, nB, nC])
        refine dM hS 5 rfl rfl rfl ?_
        (try simp only [Act.put, nA, nB, nC])
        refine dM hS 6 rfl rfl rfl ?_
        (try simp only [Act.put, nA, nB, nC])
        refine dM hS 7 rfl rfl rfl ?_
        (try simp only [Act.put, nA, nB, nC])
        refine dr_one 8 (by kernel_rfl) rfl ?_
        (refine st_call rfl (by kernel_rfl) rfl ?_; go_at_call 57; refine (containsC (S := (fun k => S k ∧ k < w0.heap.size)) UU cu un us (q : Int) _ (HU.out.1.into hS.frozInto) HU.out.2 hun1).mono ?_; rintro e w ⟨rfl, rfl⟩; rw [HBB.out])
        (try simp only [Act.put, nA, nB, nC])
        refine dr_end hS ?_
        refine dP hS 9 rfl rfl ?_
        (try simp only [Act.put, nA, nB, nC])
        refine dr_one 10 (by kernel_rfl) rfl ?_
        first | (refine sS6 hS rfl rfl rfl hq1 ?_; clear hS; intro w hS) | ((first | refine sS1 hS rfl rfl rfl ?_ | refine sS2 hS rfl rfl rfl ?_ | refine sS3 hS rfl rfl rfl ?_ | refine sS4 hS rfl rfl rfl ?_ | refine sS5 hS rfl rfl rfl ?_); clear hS; intro w hS) | fail
        (try simp only [Act.put, nA, nB, nC])
        refine dr_late (by kernel_rfl) ?_
        refine dr_done (by kernel_rfl) ?_
        go_wp2_with (first | (refine oL ?_; ((refine sL1 hS rfl rfl rfl ?_))) | (refine oS ?_; (((refine sS2 hS rfl rfl rfl ?_)); clear hS; intro w hS)))
        go_roundw
        case measure => simp [intOf]; try omega
        exact ⟨q + 1, by omega, by go_num, by rw [← HS1.out, ← HS2.out]; exact hS.re⟩
      · have hlt' : ¬ (q : Int) < (n : Int) := by omega
        have HE := Lib.hid (show upto (unwOf n us) q false = unwOf n us ∧ upto (List.replicate n (-1 : Int)) q 0 = List.replicate n (-1) from by
          have h1 : q = (unwOf n us).length := by rw [HUL.out]; omega
          have h2 : q = (List.replicate n (-1 : Int)).length := by rw [List.length_replicate]; omega
          exact ⟨by conv => lhs; rw [h1]
                    exact upto_all _ _, by conv => lhs; rw [h2]
                                           exact upto_all _ _⟩)
        rw [HE.out.1, HE.out.2] at hS
        replace hS : St w0 (fun k => S k ∧ k < w0.heap.size) (row (.slice (some ⟨q1, 0, none⟩) n n) 4 1 n (bools (unwOf n us)) :: froz (fun k => S k ∧ k < w0.heap.size) w0 :: blk g3 [.slice A1 n c1, .slice A2 p.ck.length c2, .slice A3 p.arcs.length c3, .int .i64 (r : Int), .slice (some ⟨q1, 0, none⟩) n n, .slice (some ⟨q2, 0, none⟩) n n, .slice (some ⟨q3, 0, none⟩) n n, .slice (some ⟨q4, 0, none⟩) n n, .slice (some ⟨q5, 0, none⟩) n n, .slice (some ⟨q6, 0, none⟩) n n, .slice (some ⟨q7, 0, none⟩) n n, .slice none 0 0] 91 :: row (.slice (some ⟨q2, 0, none⟩) n n) 3 1 n (ints (List.replicate n (-1))) :: row (.slice (some ⟨q3, 0, none⟩) n n) 4 1 n (bools (List.replicate n false)) :: row (.slice (some ⟨q4, 0, none⟩) n n) 3 1 n (ints (List.replicate n 0)) :: row (.slice (some ⟨q5, 0, none⟩) n n) 4 1 n (bools (List.replicate n false)) :: row (.slice (some ⟨q6, 0, none⟩) n n) 25 1 n (List.replicate n (.slice none 0 0)) :: row (.slice (some ⟨q7, 0, none⟩) n n) 3 1 n (ints (List.replicate n 0)) :: blk g2 tp0 55 :: []) wr := hS.re
        obtain ⟨T1, hS1, hi, hrv⟩ := hS.freezeV
        clear hS
        have HI := Lib.hid (And.intro hi hrv)
        clear hi hrv
        have HX := Lib.hid (show (⟨r, unwOf n us, List.replicate n (-1), List.replicate n false, List.replicate n 0, List.replicate n false, List.replicate n [], List.replicate n 0, []⟩ : TS).ask (srcL p) r r = begT p r us by unfold begT; rw [HN.out]; rfl)
        have hz : St w0 (fun k => S k ∧ k < w0.heap.size) (row (.slice none 0 0) 97 3 0 (ntc []) :: _) wr := hS1.addNil 97 3
        replace hS : St w0 (fun k => S k ∧ k < w0.heap.size) (froz T1 wr :: blk g3 [.slice A1 p.len.length c1, .slice A2 p.ck.length c2, .slice A3 p.arcs.length c3, .int .i64 (r : Int), .slice (some ⟨q1, 0, none⟩) n n, .slice (some ⟨q2, 0, none⟩) n n, .slice (some ⟨q3, 0, none⟩) n n, .slice (some ⟨q4, 0, none⟩) n n, .slice (some ⟨q5, 0, none⟩) n n, .slice (some ⟨q6, 0, none⟩) n n, .slice (some ⟨q7, 0, none⟩) n n, .slice none 0 0] 91 :: row (.slice (some ⟨q2, 0, none⟩) n n) 3 1 n (ints (List.replicate n (-1))) :: row (.slice (some ⟨q3, 0, none⟩) n n) 4 1 n (bools (List.replicate n false)) :: row (.slice (some ⟨q4, 0, none⟩) n n) 3 1 n (ints (List.replicate n 0)) :: row (.slice (some ⟨q5, 0, none⟩) n n) 4 1 n (bools (List.replicate n false)) :: row (.slice (some ⟨q6, 0, none⟩) n n) 25 1 n (List.replicate n (.slice none 0 0)) :: row (.slice (some ⟨q7, 0, none⟩) n n) 3 1 n (ints (List.replicate n 0)) :: row (.slice none 0 0) 97 3 0 (ntc []) :: blk g2 tp0 55 :: []) wr := by rw [HN.out]; exact hz.re
        clear hz
        clear hS1
        have hr : r < n := HR.out
        go_wp2_with (first | (go_at_call 62; refine (ask_st g3 A1 c1 A2 c2 A3 c3 p r n (some ⟨q1, 0, none⟩) n q2 n q3 n q4 n q5 n q6 n q7 n (List.replicate n (-1)) (List.replicate n 0) (List.replicate n 0) (unwOf n us) (List.replicate n false) (List.replicate n false) (List.replicate n []) (List.replicate n (.slice none 0 0)) [] none 0 0 r r hS (by omega) hr (by simp) (by simp) (by simp) (by simp) (by simp) (by simp) HUL.out HI.out.2 (by rw [natsR]; exact Rw2.rep n (ReV.nil _ _)) (by intro l hl; rw [List.eq_of_mem_replicate hl]; simp) (HP.out.1.into HI.out.1) HP.out.2 HN.out).mono ?_; rintro e w3 ⟨rfl, T2, u2, cv2, F2, nf2, k2, HT, hS1⟩; clear hS; have hS := hS1; clear hS1; rw [HX.out] at hS HT) | (refine oL ?_; ((refine sL2 hS rfl rfl rfl ?_))) | (refine oS ?_; (((refine sS4 hS rfl rfl rfl ?_)); clear hS; intro w hS)))
        refine st_retCT hS rfl rfl rfl rfl rfl ?_
        have hf := own_fx (hS.rowOk (v := .slice F2 nf2 k2))
        rw [ntc_len] at hf
        have hnf : nf2 = (begT p r us).fl.length := by omega
        have hrt : (begT p r us).root = r := ask_root.1
        have hunw : (begT p r us).unw = unwOf n us := by rw [← HN.out]; exact ask_root.2
        refine ⟨⟨A1, c1, A2, c2, A3, c3, some ⟨q1, 0, none⟩, n, some ⟨q2, 0, none⟩, n, some ⟨q3, 0, none⟩, n, some ⟨q4, 0, none⟩, n, some ⟨q5, 0, none⟩, n, some ⟨q6, 0, none⟩, n, some ⟨q7, 0, none⟩, n, F2, k2⟩, by rw [hrt, ← hnf]; rfl, ⟨((HP.out.1.into HI.out.1).into HT.out.1).into hS.ornF, by rw [hunw]; exact (HI.out.2.into HT.out.1).into hS.ornF, hS.rvF, hS.rvF, hS.rvF, hS.rvF, ⟨cv2, hS.rvF, HT.out.2.mono (ReV.into hS.ornF)⟩, hS.rvF, hS.rvF, ?_⟩, hS.extF (intoTr (intoTr HI.out.1 HT.out.1) hS.ornF)⟩
        rw [← hnf]
        exact hf.2
end Go.Proofs.Ytmjmdncdmmcmaaa
