/- TwophaseLeast returns true for every input. No condition. -/
import Derived.Test.YtmjmdncdmmcmaaaTwE
import Derived.Test.YtmjmdncdmmcmaaaBits
namespace Go.Proofs.Ytmjmdncdmmcmaaa
open Go.RowKit
set_option linter.unusedVariables false
set_option linter.unusedSimpArgs false
set_option linter.unusedSectionVars false

/-- the set of a list, as a number -/
def maskOf (l : List Nat) : Nat := l.foldl (fun a x => a ||| 2 ^ x) 0
theorem maskOf_snoc (l : List Nat) (x : Nat) : maskOf (l ++ [x]) = maskOf l ||| 2 ^ x := by simp [maskOf]
theorem snocN {P : List Nat → Prop} (h0 : P []) (h1 : ∀ l p, P l → P (l ++ [p])) (l : List Nat) : P l := by
  have : ∀ n (l : List Nat), l.length = n → P l := by
    intro n
    induction n with
    | zero => intro l h; rw [List.eq_nil_of_length_eq_zero h]; exact h0
    | succ n ih =>
      intro l h
      have hne : l ≠ [] := by intro e; rw [e] at h; simp at h
      have e := List.dropLast_concat_getLast hne
      rw [← e]
      exact h1 _ _ (ih _ (by simp [h]))
  exact this _ l rfl
theorem maskOf_bit (l : List Nat) (q : Nat) : (maskOf l).testBit q = decide (q ∈ l) := by
  induction l using snocN with
  | h0 => simp [maskOf]
  | h1 l p ih =>
    rw [maskOf_snoc, Nat.testBit_or, ih, Nat.testBit_two_pow]
    by_cases e : p = q
    · subst e; simp
    · have e2 : ¬ q = p := fun h => e h.symm
      simp [e, e2]
theorem maskOf_lt {n : Nat} (l : List Nat) (h : ∀ x ∈ l, x < n) : maskOf l < 2 ^ n := by
  induction l using snocN with
  | h0 => exact Nat.pow_pos (by omega)
  | h1 l p ih =>
    rw [maskOf_snoc]
    exact Nat.or_lt_two_pow (ih (fun x hx => h x (by simp [hx]))) (Nat.pow_lt_pow_right (by omega) (h p (by simp)))
/-- bit q of m, as the law reads it -/
theorem bit_val (m q : Nat) : ((m / 2 ^ q) &&& 1) = if m.testBit q = true then 1 else 0 := by
  rw [Nat.testBit_eq_decide_div_mod_eq, Nat.and_one_is_mod]
  generalize m / 2 ^ q = z
  by_cases h : z % 2 = 1
  · simp [h]
  · have : z % 2 = 0 := by omega
    simp [this]
theorem bit_t {m q : Nat} (h : m.testBit q = true) : ((m / 2 ^ q) &&& 1) = 1 := by rw [bit_val, if_pos h]
theorem bit_f {m q : Nat} (h : m.testBit q = false) : ((m / 2 ^ q) &&& 1) = 0 := by rw [bit_val, if_neg (by rw [h]; decide)]
theorem and_mask {m : Nat} {l : List Nat} (h : ∀ x ∈ l, m.testBit x = true) : m &&& maskOf l = maskOf l := by
  apply Nat.eq_of_testBit_eq
  intro q
  rw [Nat.testBit_and, maskOf_bit]
  by_cases hq : q ∈ l
  · simp [h q hq, hq]
  · simp [hq]
/-- closed under the sources, as far as looked at -/
def ClU (p : Pat) (m q s : Nat) : Prop := ∀ q' s', (q' < q ∨ (q' = q ∧ s' < s)) → q' < p.len.length → s' < p.len.length → m.testBit q' = true → isSrc p s' q' = true → m.testBit s' = true
theorem ClU.zero (p : Pat) (m : Nat) : ClU p m 0 0 := fun q' s' h => by omega
theorem ClU.next {p : Pat} {m q : Nat} : ClU p m q p.len.length ↔ ClU p m (q + 1) 0 := by
  constructor
  · intro h q' s' h1 h2 h3
    exact h q' s' (by omega) h2 h3
  · intro h q' s' h1 h2 h3
    exact h q' s' (by omega) h2 h3
theorem ClU.step {p : Pat} {m q s : Nat} (hq : q < p.len.length) (hs : s < p.len.length) : ClU p m q (s + 1) ↔ ClU p m q s ∧ (m.testBit q = true → isSrc p s q = true → m.testBit s = true) := by
  constructor
  · intro h
    exact ⟨fun q' s' h1 => h q' s' (by omega), fun h1 h2 => h q s (by omega) hq hs h1 h2⟩
  · rintro ⟨h, h0⟩ q' s' h1 h2 h3 h4 h5
    by_cases e : q' = q ∧ s' = s
    · obtain ⟨rfl, rfl⟩ := e; exact h0 h4 h5
    · exact h q' s' (by omega) h2 h3 h4 h5
/-- c tells what has been found so far -/
def ClS (b : Bool) (p : Pat) (m q s : Nat) (c : Bool) : Prop := c = true ↔ b = true ∧ ClU p m q s
theorem clu_all {p : Pat} {r m : Nat} {l : List Nat} (hr : r < p.len.length) (hl : IsRch (srcL p) r l) (h0 : m.testBit r = true) (h : ClU p m p.len.length 0) : m &&& maskOf l = maskOf l := by
  refine and_mask (fun x hx => ?_)
  have := ((hl.mem x).1 hx).closed (P := fun z => z < p.len.length ∧ m.testBit z = true) ⟨hr, h0⟩ (fun z hz y hy => ?_)
  · exact this.2
  · obtain ⟨h1, h2⟩ := srcL_mem.1 hy
    exact ⟨h1, h z y (.inl hz.1) hz.1 h1 hz.2 h2⟩
theorem mask_clu {p : Pat} {r : Nat} {l : List Nat} (hg : Good p) (hl : IsRch (srcL p) r l) : (maskOf l).testBit r = true ∧ ClU p (maskOf l) p.len.length 0 := by
  refine ⟨by rw [maskOf_bit]; exact decide_eq_true ((hl.mem r).2 .here), fun q s _ hq hs h1 h2 => ?_⟩
  rw [maskOf_bit] at h1 ⊢
  exact decide_eq_true ((hl.mem s).2 (((hl.mem q).1 (of_decide_eq_true h1)).step (srcL_mem.2 ⟨hs, h2⟩)))
set_option maxRecDepth 100000 in
set_option maxHeartbeats 6400000 in
theorem twophaseLeast_any (C : Option Addr) (f : Nat) (bs : List Int) (z0 : Int) (w0 : World) (hbs : RV (fun b => b < w0.heap.size) w0 C (bytes bs)) (hf : bs.length ≤ f) (hf' : f ≤ 9223372036854775807) (hby : ∀ b ∈ bs, 0 ≤ b ∧ b ≤ 255) (hz0 : -9223372036854775808 ≤ z0 ∧ z0 ≤ 9223372036854775807) :
    Calls Try.prog 5 #[.slice C bs.length f, .int .i64 z0] w0 fun e w' => e = .returned (.bool true) ∧ Ext w0 w' := by
  have hS := St.start w0 NoM
  have HBY := Lib.hid (And.intro hby hbs)
  clear hby hbs
  go_enter Try.func5, Try.ntmps5
  go_wp2_with (first | (go_at_call 21; refine (awake24_any _).mono ?_; rintro e w ⟨rfl, hx1⟩; replace hS := hS.ext hx1; clear hx1) | (go_at_call 22; refine (draw24_any C f bs _ ((HBY.out.2.below hS.toExt).sub (fun b hb => Nat.lt_of_lt_of_le hb hS.le)) hf hf' HBY.out.1).mono ?_; rintro e w2 ⟨⟨A1, c1, A2, c2, A3, c3⟩, p, rfl, hsm, hpa, hx1⟩; simp only [PV.val]; obtain ⟨T, hS2, hpa2⟩ := frozOf hS hx1 hpa; clear hS hx1 hpa; have hS := hS2; clear hS2; have HG := Lib.hid hsm.good; have HPA := Lib.hid hpa2; have hn2 := hsm.good.n2; have hn5 := hsm.good.n5; have hfew := hsm.good.few; clear hsm hpa2) | (go_at_call 12; refine (mod24_any z0 p.len.length _ _ rfl (by omega) (by omega)).mono ?_; rintro e w ⟨⟨r, rfl, hr⟩, hx1⟩; replace hS := hS.ext hx1; clear hx1) | (go_at_call 23; refine (least_any ⟨A1, c1, A2, c2, A3, c3⟩ p r _ (HPA.out.into hS.frozInto) HG.out hr).mono ?_; rintro e w ⟨l, hm, L, cL, rfl, ho, hx1⟩; replace hS := hS.addRow ho hx1; clear ho hx1; have HM := Lib.hid hm; clear hm) | (refine oL ?_; (first | refine sL1 hS rfl rfl rfl ?_ | refine sL2 hS rfl rfl rfl ?_ | refine sL3 hS rfl rfl ?_ | refine sL4 hS rfl rfl ?_ | refine sL5 hS rfl rfl ?_ | refine sL6 hS rfl rfl ?_ | refine sL7 hS rfl rfl ?_)) | (refine oS ?_; ((first | refine sS1 hS rfl rfl rfl ?_ | refine sS2 hS rfl rfl rfl ?_ | refine sS3 hS rfl rfl rfl ?_ | refine sS4 hS rfl rfl rfl ?_ | refine sS5 hS rfl rfl rfl ?_); clear hS; intro w hS)) | ((first | refine sN1 hS rfl ?_); clear hS; first | ((fail_if_success guard_hyp g1); intro g1 w hS) | ((fail_if_success guard_hyp g2); intro g2 w hS) | fail) | fail)
  clear HBY
  have HXL := Lib.hid (fun x (hx : x ∈ l) => show x < p.len.length from ((HM.out.mem x).1 hx).closed (P := fun z => z < p.len.length) hr (fun z _ y hy => (srcL_mem.1 hy).1))
  have hll : l.length ≤ 5 := by
    have := nodup_lt_len p.len.length l (HM.out.asc.imp (fun h => by omega)) HXL.out
    omega
  have HMX := Lib.hid (fun i => Nat.lt_of_lt_of_le (maskOf_lt (n := p.len.length) (l.take i) (fun x hx => HXL.out x (List.mem_of_mem_take hx))) (Nat.pow_le_pow_right (n := 2) (by omega) hn5))
  have h25 : (2 : Nat) ^ 5 = 32 := by decide
  rw [h25] at HMX
  go_loopw [9, 10] (fun s9 s10 wr => ∃ (i mk : Nat), i ≤ l.length ∧ mk < 32 ∧ s10 = .int .i64 i ∧ s9 = .int .i64 mk ∧ Hid (maskOf (l.take i) = mk) ∧ St w0 NoM [row (.slice L l.length cL) 3 1 l.length (ints (nats l)), froz T w2, blk g1 [.slice A1 p.len.length c1, .slice A2 p.ck.length c2, .slice A3 p.arcs.length c3] 44] wr) (fun _ s10 _ => l.length - (intOf s10).toNat)
  case atStart => exact ⟨0, 0, by omega, by omega, rfl, rfl, Lib.hid rfl, hS.re⟩
  case round =>
    clear hS
    obtain ⟨i, mk, hi, hmk, rfl, rfl, HK, hS⟩ := hrel
    by_cases hil : i < l.length
    · have hil' : (i : Int) < l.length := by omega
      obtain ⟨gL, rfl⟩ := hS.rowSome L (by omega)
      have hgx : (ints (nats l))[i]? = some (.int .i64 ((l[i] : Nat) : Int)) := by simp [ints, nats, hil]
      have hxn := HXL.out l[i] (List.getElem_mem hil)
      have HTK := Lib.hid (show maskOf (l.take (i + 1)) = mk ||| 2 ^ l[i] by rw [List.take_succ_eq_append_getElem hil, maskOf_snoc, HK.out])
      have HLT := Lib.hid (show mk ||| 2 ^ l[i] < 32 by have := HMX.out (i + 1); rw [HTK.out] at this; exact this)
      have HPR := Lib.hid (fun (h0 : 0 < i) => show l[i - 1] < l[i] from List.pairwise_iff_getElem.1 HM.out.asc (i - 1) i (by omega) hil (by omega))
      have hgx1 : ∀ h0 : 0 < i, (ints (nats l))[i - 1]? = some (.int .i64 ((l[i - 1] : Nat) : Int)) := fun h0 => by simp [ints, nats, show i - 1 < l.length by omega]
      have d0 : decide (((l[i] : Nat) : Int) < 0) = false := decide_eq_false (by omega)
      have d1 : decide ((p.len.length : Int) ≤ ((l[i] : Nat) : Int)) = false := decide_eq_false (by omega)
      have d1n : decide (p.len.length ≤ l[i]) = false := decide_eq_false (by omega)
      have h32 : 2 ^ l[i] < 9223372036854775808 := Nat.lt_of_lt_of_le (Nat.pow_lt_pow_right (by omega) (show l[i] < 5 by omega)) (by decide)
      by_cases h0 : 0 < i
      · have hlt2 : l[i - 1] < l[i] := HPR.out h0
        have hg1 := hgx1 h0
        have d2 : decide ((0 : Int) < (i : Int)) = true := decide_eq_true (by omega)
        have d2n : decide (0 < i) = true := decide_eq_true h0
        have d3 : decide (((l[i] : Nat) : Int) ≤ ((l[i - 1] : Nat) : Int)) = false := decide_eq_false (by omega)
        have d3n : decide (l[i] ≤ l[i - 1]) = false := decide_eq_false (by omega)
        have hi1 : ((i : Int) - 1) = ((i - 1 : Nat) : Int) := by omega
        have hi2 : ((i - 1 : Nat) : Int) < (l.length : Int) := by omega
        clear hgx1 HPR hlt2
        generalize l[i] = x at *
        generalize l[i - 1] = x1 at *
        go_upto_region 11 with (first | (refine oL ?_; (first | refine sL1 hS rfl rfl rfl ?_ | refine sL2 hS rfl rfl rfl ?_ | refine sL3 hS rfl rfl ?_ | refine sL4 hS rfl rfl ?_ | refine sL5 hS rfl rfl ?_ | refine sL6 hS rfl rfl ?_ | refine sL7 hS rfl rfl ?_)) | (refine oS ?_; ((first | refine sS1 hS rfl rfl rfl ?_ | refine sS2 hS rfl rfl rfl ?_ | refine sS3 hS rfl rfl rfl ?_ | refine sS4 hS rfl rfl rfl ?_ | refine sS5 hS rfl rfl rfl ?_); clear hS; intro w hS)) | ((first | refine sN1 hS rfl ?_); clear hS; first | ((fail_if_success guard_hyp g1); intro g1 w hS) | ((fail_if_success guard_hyp g2); intro g2 w hS) | fail) | fail)
        refine dr_start0 []  hS (by kernel_rfl) rfl ?_; clear hS; intro w hS
        refine dM hS 0 rfl rfl rfl ?_
        (try simp only [Act.put, nA, nB, nC])
        refine dM hS 1 rfl rfl rfl ?_
        (try simp only [Act.put, nA, nB, nC])
        refine dP hS 2 rfl rfl ?_
        (try simp only [Act.put, nA, nB, nC])
        first | refine dL1 hS 3 rfl rfl rfl rfl ?_ | refine dL2 hS 3 rfl rfl rfl rfl ?_ | refine dL3 hS 3 rfl rfl rfl ?_ | refine dL4 hS 3 rfl rfl rfl ?_ | refine dL5 hS 3 rfl rfl rfl ?_ | refine dL6 hS 3 rfl rfl rfl ?_ | refine dL7 hS 3 rfl rfl rfl ?_
        (try simp only [Act.put, nA, nB, nC])
        first | (refine dP hS 4 rfl rfl ?_; try rw [d0]) | refine dP hS 4 rfl rfl ?_
        (try simp only [Act.put, nA, nB, nC])
        refine dM hS 5 rfl rfl rfl ?_
        (try simp only [Act.put, nA, nB, nC])
        first | refine dM hS 6 rfl rfl rfl ?_ | refine dQ hS 6 rfl rfl ?_
        (try simp only [Act.put, nA, nB, nC])
        first | refine dM hS 7 rfl rfl rfl ?_ | refine dQ hS 7 rfl rfl ?_
        (try simp only [Act.put, nA, nB, nC])
        first | refine dP hS 8 rfl rfl ?_ | refine dQ hS 8 rfl rfl ?_
        (try simp only [Act.put, nA, nB, nC])
        first | refine dL1 hS 9 rfl rfl rfl rfl ?_ | refine dL2 hS 9 rfl rfl rfl rfl ?_ | refine dL3 hS 9 rfl rfl rfl ?_ | refine dL4 hS 9 rfl rfl rfl ?_ | refine dL5 hS 9 rfl rfl rfl ?_ | refine dL6 hS 9 rfl rfl rfl ?_ | refine dL7 hS 9 rfl rfl rfl ?_ | refine dQ hS 9 rfl rfl ?_
        (try simp only [Act.put, nA, nB, nC])
        first | refine dM hS 10 rfl rfl rfl ?_ | refine dQ hS 10 rfl rfl ?_
        (try simp only [Act.put, nA, nB, nC])
        first | (refine dP hS 11 rfl rfl ?_; try (first | rw [d1] | rw [d1n])) | refine dP hS 11 rfl rfl ?_ | refine dQ hS 11 rfl rfl ?_
        (try simp only [Act.put, nA, nB, nC])
        refine dP hS 12 rfl rfl ?_
        (try simp only [Act.put, nA, nB, nC])
        refine dM hS 13 rfl rfl rfl ?_
        (try simp only [Act.put, nA, nB, nC])
        first | refine dM hS 14 rfl rfl rfl ?_ | refine dQ hS 14 rfl rfl ?_
        (try simp only [Act.put, nA, nB, nC])
        first | (refine dP hS 15 rfl rfl ?_; try (first | rw [d2] | rw [d2n])) | refine dP hS 15 rfl rfl ?_ | refine dQ hS 15 rfl rfl ?_
        (try simp only [Act.put, nA, nB, nC])
        first | refine dM hS 16 rfl rfl rfl ?_ | refine dQ hS 16 rfl rfl ?_
        (try simp only [Act.put, nA, nB, nC])
        first | refine dM hS 17 rfl rfl rfl ?_ | refine dQ hS 17 rfl rfl ?_
        (try simp only [Act.put, nA, nB, nC])
        first | refine dM hS 18 rfl rfl rfl ?_ | refine dQ hS 18 rfl rfl ?_
        (try simp only [Act.put, nA, nB, nC])
        first | refine dP hS 19 rfl rfl ?_ | refine dQ hS 19 rfl rfl ?_
        (try simp only [Act.put, nA, nB, nC])
        first | refine dL1 hS 20 rfl rfl rfl rfl ?_ | refine dL2 hS 20 rfl rfl rfl rfl ?_ | refine dL3 hS 20 rfl rfl rfl ?_ | refine dL4 hS 20 rfl rfl rfl ?_ | refine dL5 hS 20 rfl rfl rfl ?_ | refine dL6 hS 20 rfl rfl rfl ?_ | refine dL7 hS 20 rfl rfl rfl ?_ | refine dQ hS 20 rfl rfl ?_
        (try simp only [Act.put, nA, nB, nC])
        first | refine dM hS 21 rfl rfl rfl ?_ | refine dQ hS 21 rfl rfl ?_
        (try simp only [Act.put, nA, nB, nC])
        first | refine dM hS 22 rfl rfl rfl ?_ | refine dQ hS 22 rfl rfl ?_
        (try simp only [Act.put, nA, nB, nC])
        first | refine dP hS 23 rfl rfl ?_ | refine dQ hS 23 rfl rfl ?_
        (try simp only [Act.put, nA, nB, nC])
        first | refine dP hS 24 rfl rfl ?_ | refine dQ hS 24 rfl rfl ?_
        (try simp only [Act.put, nA, nB, nC])
        first | refine dL1 hS 25 rfl rfl rfl rfl ?_ | refine dL2 hS 25 rfl rfl rfl rfl ?_ | refine dL3 hS 25 rfl rfl rfl ?_ | refine dL4 hS 25 rfl rfl rfl ?_ | refine dL5 hS 25 rfl rfl rfl ?_ | refine dL6 hS 25 rfl rfl rfl ?_ | refine dL7 hS 25 rfl rfl rfl ?_ | refine dQ hS 25 rfl rfl ?_
        (try simp only [Act.put, nA, nB, nC])
        first | (refine dP hS 26 rfl rfl ?_; try (first | rw [d3] | rw [d3n])) | refine dP hS 26 rfl rfl ?_ | refine dQ hS 26 rfl rfl ?_
        (try simp only [Act.put, nA, nB, nC])
        first | refine dP hS 27 rfl rfl ?_ | refine dQ hS 27 rfl rfl ?_
        (try simp only [Act.put, nA, nB, nC])
        refine dP hS 28 rfl rfl ?_
        (try simp only [Act.put, nA, nB, nC])
        refine dr_done (by kernel_rfl) ?_
        go_upto_region 13 with (first | (refine oL ?_; (first | refine sL1 hS rfl rfl rfl ?_ | refine sL2 hS rfl rfl rfl ?_ | refine sL3 hS rfl rfl ?_ | refine sL4 hS rfl rfl ?_ | refine sL5 hS rfl rfl ?_ | refine sL6 hS rfl rfl ?_ | refine sL7 hS rfl rfl ?_)) | (refine oS ?_; ((first | refine sS1 hS rfl rfl rfl ?_ | refine sS2 hS rfl rfl rfl ?_ | refine sS3 hS rfl rfl rfl ?_ | refine sS4 hS rfl rfl rfl ?_ | refine sS5 hS rfl rfl rfl ?_); clear hS; intro w hS)) | ((first | refine sN1 hS rfl ?_); clear hS; first | ((fail_if_success guard_hyp g1); intro g1 w hS) | ((fail_if_success guard_hyp g2); intro g2 w hS) | fail) | fail)
        refine lR ?_
        refine lM rfl rfl ?_
        (try simp only [Act.put, nA, nB, nC])
        refine lM rfl rfl ?_
        (try simp only [Act.put, nA, nB, nC])
        refine lM rfl rfl ?_
        (try simp only [Act.put, nA, nB, nC])
        refine lP rfl ?_
        (try simp only [Act.put, nA, nB, nC])
        (refine ⟨?_⟩; ((first | refine sL1 hS rfl rfl rfl ?_ | refine sL2 hS rfl rfl rfl ?_ | refine sL3 hS rfl rfl ?_ | refine sL4 hS rfl rfl ?_ | refine sL5 hS rfl rfl ?_ | refine sL6 hS rfl rfl ?_ | refine sL7 hS rfl rfl ?_)); refine WL.h ?_)
        (try simp only [Act.put, nA, nB, nC])
        (refine ⟨?_⟩; (refine sBin (run_shlN (k := x) (by omega)) rfl rfl rfl rfl ?_); refine WL.h ?_)
        (try simp only [Act.put, nA, nB, nC])
        (refine ⟨?_⟩; (refine sBin (run_orN (a := mk) (b := 2 ^ x) (by omega) h32) rfl rfl rfl rfl ?_); refine WL.h ?_)
        (try simp only [Act.put, nA, nB, nC])
        refine lA rfl rfl ?_
        (try simp only [Act.put, nA, nB, nC])
        refine lZ ?_
        go_wp2_with (first | (refine oL ?_; (first | refine sL1 hS rfl rfl rfl ?_ | refine sL2 hS rfl rfl rfl ?_ | refine sL3 hS rfl rfl ?_ | refine sL4 hS rfl rfl ?_ | refine sL5 hS rfl rfl ?_ | refine sL6 hS rfl rfl ?_ | refine sL7 hS rfl rfl ?_)) | (refine oS ?_; ((first | refine sS1 hS rfl rfl rfl ?_ | refine sS2 hS rfl rfl rfl ?_ | refine sS3 hS rfl rfl rfl ?_ | refine sS4 hS rfl rfl rfl ?_ | refine sS5 hS rfl rfl rfl ?_); clear hS; intro w hS)) | ((first | refine sN1 hS rfl ?_); clear hS; first | ((fail_if_success guard_hyp g1); intro g1 w hS) | ((fail_if_success guard_hyp g2); intro g2 w hS) | fail) | fail)
        go_roundw
        case measure => simp [intOf]; try omega
        exact ⟨i + 1, mk ||| 2 ^ x, by omega, HLT.out, by go_num, rfl, HTK, hS.re⟩
      · have d2 : decide ((0 : Int) < (i : Int)) = false := decide_eq_false (by omega)
        have d2n : decide (0 < i) = false := decide_eq_false h0
        clear hgx1 HPR
        generalize l[i] = x at *
        go_upto_region 11 with (first | (refine oL ?_; (first | refine sL1 hS rfl rfl rfl ?_ | refine sL2 hS rfl rfl rfl ?_ | refine sL3 hS rfl rfl ?_ | refine sL4 hS rfl rfl ?_ | refine sL5 hS rfl rfl ?_ | refine sL6 hS rfl rfl ?_ | refine sL7 hS rfl rfl ?_)) | (refine oS ?_; ((first | refine sS1 hS rfl rfl rfl ?_ | refine sS2 hS rfl rfl rfl ?_ | refine sS3 hS rfl rfl rfl ?_ | refine sS4 hS rfl rfl rfl ?_ | refine sS5 hS rfl rfl rfl ?_); clear hS; intro w hS)) | ((first | refine sN1 hS rfl ?_); clear hS; first | ((fail_if_success guard_hyp g1); intro g1 w hS) | ((fail_if_success guard_hyp g2); intro g2 w hS) | fail) | fail)
        refine dr_start0 []  hS (by kernel_rfl) rfl ?_; clear hS; intro w hS
        refine dM hS 0 rfl rfl rfl ?_
        (try simp only [Act.put, nA, nB, nC])
        refine dM hS 1 rfl rfl rfl ?_
        (try simp only [Act.put, nA, nB, nC])
        refine dP hS 2 rfl rfl ?_
        (try simp only [Act.put, nA, nB, nC])
        first | refine dL1 hS 3 rfl rfl rfl rfl ?_ | refine dL2 hS 3 rfl rfl rfl rfl ?_ | refine dL3 hS 3 rfl rfl rfl ?_ | refine dL4 hS 3 rfl rfl rfl ?_ | refine dL5 hS 3 rfl rfl rfl ?_ | refine dL6 hS 3 rfl rfl rfl ?_ | refine dL7 hS 3 rfl rfl rfl ?_
        (try simp only [Act.put, nA, nB, nC])
        first | (refine dP hS 4 rfl rfl ?_; try rw [d0]) | refine dP hS 4 rfl rfl ?_
        (try simp only [Act.put, nA, nB, nC])
        refine dM hS 5 rfl rfl rfl ?_
        (try simp only [Act.put, nA, nB, nC])
        first | refine dM hS 6 rfl rfl rfl ?_ | refine dQ hS 6 rfl rfl ?_
        (try simp only [Act.put, nA, nB, nC])
        first | refine dM hS 7 rfl rfl rfl ?_ | refine dQ hS 7 rfl rfl ?_
        (try simp only [Act.put, nA, nB, nC])
        first | refine dP hS 8 rfl rfl ?_ | refine dQ hS 8 rfl rfl ?_
        (try simp only [Act.put, nA, nB, nC])
        first | refine dL1 hS 9 rfl rfl rfl rfl ?_ | refine dL2 hS 9 rfl rfl rfl rfl ?_ | refine dL3 hS 9 rfl rfl rfl ?_ | refine dL4 hS 9 rfl rfl rfl ?_ | refine dL5 hS 9 rfl rfl rfl ?_ | refine dL6 hS 9 rfl rfl rfl ?_ | refine dL7 hS 9 rfl rfl rfl ?_ | refine dQ hS 9 rfl rfl ?_
        (try simp only [Act.put, nA, nB, nC])
        first | refine dM hS 10 rfl rfl rfl ?_ | refine dQ hS 10 rfl rfl ?_
        (try simp only [Act.put, nA, nB, nC])
        first | (refine dP hS 11 rfl rfl ?_; try (first | rw [d1] | rw [d1n])) | refine dP hS 11 rfl rfl ?_ | refine dQ hS 11 rfl rfl ?_
        (try simp only [Act.put, nA, nB, nC])
        refine dP hS 12 rfl rfl ?_
        (try simp only [Act.put, nA, nB, nC])
        refine dM hS 13 rfl rfl rfl ?_
        (try simp only [Act.put, nA, nB, nC])
        first | refine dM hS 14 rfl rfl rfl ?_ | refine dQ hS 14 rfl rfl ?_
        (try simp only [Act.put, nA, nB, nC])
        first | (refine dP hS 15 rfl rfl ?_; try (first | rw [d2] | rw [d2n])) | refine dP hS 15 rfl rfl ?_ | refine dQ hS 15 rfl rfl ?_
        (try simp only [Act.put, nA, nB, nC])
        first | refine dM hS 16 rfl rfl rfl ?_ | refine dQ hS 16 rfl rfl ?_
        (try simp only [Act.put, nA, nB, nC])
        first | refine dM hS 17 rfl rfl rfl ?_ | refine dQ hS 17 rfl rfl ?_
        (try simp only [Act.put, nA, nB, nC])
        first | refine dM hS 18 rfl rfl rfl ?_ | refine dQ hS 18 rfl rfl ?_
        (try simp only [Act.put, nA, nB, nC])
        first | refine dP hS 19 rfl rfl ?_ | refine dQ hS 19 rfl rfl ?_
        (try simp only [Act.put, nA, nB, nC])
        first | refine dL1 hS 20 rfl rfl rfl rfl ?_ | refine dL2 hS 20 rfl rfl rfl rfl ?_ | refine dL3 hS 20 rfl rfl rfl ?_ | refine dL4 hS 20 rfl rfl rfl ?_ | refine dL5 hS 20 rfl rfl rfl ?_ | refine dL6 hS 20 rfl rfl rfl ?_ | refine dL7 hS 20 rfl rfl rfl ?_ | refine dQ hS 20 rfl rfl ?_
        (try simp only [Act.put, nA, nB, nC])
        first | refine dM hS 21 rfl rfl rfl ?_ | refine dQ hS 21 rfl rfl ?_
        (try simp only [Act.put, nA, nB, nC])
        first | refine dM hS 22 rfl rfl rfl ?_ | refine dQ hS 22 rfl rfl ?_
        (try simp only [Act.put, nA, nB, nC])
        first | refine dP hS 23 rfl rfl ?_ | refine dQ hS 23 rfl rfl ?_
        (try simp only [Act.put, nA, nB, nC])
        first | refine dP hS 24 rfl rfl ?_ | refine dQ hS 24 rfl rfl ?_
        (try simp only [Act.put, nA, nB, nC])
        first | refine dL1 hS 25 rfl rfl rfl rfl ?_ | refine dL2 hS 25 rfl rfl rfl rfl ?_ | refine dL3 hS 25 rfl rfl rfl ?_ | refine dL4 hS 25 rfl rfl rfl ?_ | refine dL5 hS 25 rfl rfl rfl ?_ | refine dL6 hS 25 rfl rfl rfl ?_ | refine dL7 hS 25 rfl rfl rfl ?_ | refine dQ hS 25 rfl rfl ?_
        (try simp only [Act.put, nA, nB, nC])
        first | (refine dP hS 26 rfl rfl ?_; try (first | rw [d3] | rw [d3n])) | refine dP hS 26 rfl rfl ?_ | refine dQ hS 26 rfl rfl ?_
        (try simp only [Act.put, nA, nB, nC])
        first | refine dP hS 27 rfl rfl ?_ | refine dQ hS 27 rfl rfl ?_
        (try simp only [Act.put, nA, nB, nC])
        refine dP hS 28 rfl rfl ?_
        (try simp only [Act.put, nA, nB, nC])
        refine dr_done (by kernel_rfl) ?_
        go_upto_region 13 with (first | (refine oL ?_; (first | refine sL1 hS rfl rfl rfl ?_ | refine sL2 hS rfl rfl rfl ?_ | refine sL3 hS rfl rfl ?_ | refine sL4 hS rfl rfl ?_ | refine sL5 hS rfl rfl ?_ | refine sL6 hS rfl rfl ?_ | refine sL7 hS rfl rfl ?_)) | (refine oS ?_; ((first | refine sS1 hS rfl rfl rfl ?_ | refine sS2 hS rfl rfl rfl ?_ | refine sS3 hS rfl rfl rfl ?_ | refine sS4 hS rfl rfl rfl ?_ | refine sS5 hS rfl rfl rfl ?_); clear hS; intro w hS)) | ((first | refine sN1 hS rfl ?_); clear hS; first | ((fail_if_success guard_hyp g1); intro g1 w hS) | ((fail_if_success guard_hyp g2); intro g2 w hS) | fail) | fail)
        refine lR ?_
        refine lM rfl rfl ?_
        (try simp only [Act.put, nA, nB, nC])
        refine lM rfl rfl ?_
        (try simp only [Act.put, nA, nB, nC])
        refine lM rfl rfl ?_
        (try simp only [Act.put, nA, nB, nC])
        refine lP rfl ?_
        (try simp only [Act.put, nA, nB, nC])
        (refine ⟨?_⟩; ((first | refine sL1 hS rfl rfl rfl ?_ | refine sL2 hS rfl rfl rfl ?_ | refine sL3 hS rfl rfl ?_ | refine sL4 hS rfl rfl ?_ | refine sL5 hS rfl rfl ?_ | refine sL6 hS rfl rfl ?_ | refine sL7 hS rfl rfl ?_)); refine WL.h ?_)
        (try simp only [Act.put, nA, nB, nC])
        (refine ⟨?_⟩; (refine sBin (run_shlN (k := x) (by omega)) rfl rfl rfl rfl ?_); refine WL.h ?_)
        (try simp only [Act.put, nA, nB, nC])
        (refine ⟨?_⟩; (refine sBin (run_orN (a := mk) (b := 2 ^ x) (by omega) h32) rfl rfl rfl rfl ?_); refine WL.h ?_)
        (try simp only [Act.put, nA, nB, nC])
        refine lA rfl rfl ?_
        (try simp only [Act.put, nA, nB, nC])
        refine lZ ?_
        go_wp2_with (first | (refine oL ?_; (first | refine sL1 hS rfl rfl rfl ?_ | refine sL2 hS rfl rfl rfl ?_ | refine sL3 hS rfl rfl ?_ | refine sL4 hS rfl rfl ?_ | refine sL5 hS rfl rfl ?_ | refine sL6 hS rfl rfl ?_ | refine sL7 hS rfl rfl ?_)) | (refine oS ?_; ((first | refine sS1 hS rfl rfl rfl ?_ | refine sS2 hS rfl rfl rfl ?_ | refine sS3 hS rfl rfl rfl ?_ | refine sS4 hS rfl rfl rfl ?_ | refine sS5 hS rfl rfl rfl ?_); clear hS; intro w hS)) | ((first | refine sN1 hS rfl ?_); clear hS; first | ((fail_if_success guard_hyp g1); intro g1 w hS) | ((fail_if_success guard_hyp g2); intro g2 w hS) | fail) | fail)
        go_roundw
        case measure => simp [intOf]; try omega
        exact ⟨i + 1, mk ||| 2 ^ x, by omega, HLT.out, by go_num, rfl, HTK, hS.re⟩
    · have hil' : ¬ (i : Int) < l.length := by omega
      rw [List.take_of_length_le (by omega)] at HK
      have hn32 : 2 ^ p.len.length ≤ 32 := by rw [← h25]; exact Nat.pow_le_pow_right (by omega) hn5
      generalize hNN : 2 ^ p.len.length = NN at *
      have HNN := Lib.hid hNN
      clear hNN HMX h25
      have HMK := Lib.hid hmk
      go_wp2_with (first | (refine oL ?_; (first | refine sL1 hS rfl rfl rfl ?_ | refine sL2 hS rfl rfl rfl ?_ | refine sL3 hS rfl rfl ?_ | refine sL4 hS rfl rfl ?_ | refine sL5 hS rfl rfl ?_ | refine sL6 hS rfl rfl ?_ | refine sL7 hS rfl rfl ?_)) | (refine oS ?_; ((first | refine sS1 hS rfl rfl rfl ?_ | refine sS2 hS rfl rfl rfl ?_ | refine sS3 hS rfl rfl rfl ?_ | refine sS4 hS rfl rfl rfl ?_ | refine sS5 hS rfl rfl rfl ?_); clear hS; intro w hS)) | ((first | refine sN1 hS rfl ?_); clear hS; first | ((fail_if_success guard_hyp g1); intro g1 w hS) | ((fail_if_success guard_hyp g2); intro g2 w hS) | fail) | fail)
      go_loopw [11, 12, 13, 14] (fun s11 s12 s13 s14 wr => ∃ (m : Nat), m ≤ NN ∧ s11 = .int .i64 m ∧ St w0 NoM [row (.slice L l.length cL) 3 1 l.length (ints (nats l)), froz T w2, blk g1 [.slice A1 p.len.length c1, .slice A2 p.ck.length c2, .slice A3 p.arcs.length c3] 44] wr) (fun s11 _ _ _ _ => NN - (intOf s11).toNat)
      case atStart => exact ⟨0, by omega, rfl, hS⟩
      case round =>
        clear hS
        obtain ⟨m, hm, rfl, hS⟩ := hrel
        have dm : decide ((m : Int) < (NN : Int)) = decide (m < NN) := by
          simp only [decide_eq_decide]; omega
        by_cases hmN : m < NN
        · have dmt : decide (m < NN) = true := decide_eq_true hmN
          have hm32 : m < 32 := by omega
          have hdv : ∀ q, m / 2 ^ q < 9223372036854775808 := fun q => Nat.lt_of_le_of_lt (Nat.div_le_self _ _) (by omega)
          have HDV := Lib.hid hdv
          clear hdv
          go_upto_region 15 with (first | (refine oL ?_; (first | refine sL1 hS rfl rfl rfl ?_ | refine sL2 hS rfl rfl rfl ?_ | refine sL3 hS rfl rfl ?_ | refine sL4 hS rfl rfl ?_ | refine sL5 hS rfl rfl ?_ | refine sL6 hS rfl rfl ?_ | refine sL7 hS rfl rfl ?_)) | (refine oS ?_; ((first | refine sS1 hS rfl rfl rfl ?_ | refine sS2 hS rfl rfl rfl ?_ | refine sS3 hS rfl rfl rfl ?_ | refine sS4 hS rfl rfl rfl ?_ | refine sS5 hS rfl rfl rfl ?_); clear hS; intro w hS)) | ((first | refine sN1 hS rfl ?_); clear hS; first | ((fail_if_success guard_hyp g1); intro g1 w hS) | ((fail_if_success guard_hyp g2); intro g2 w hS) | fail) | fail)
          refine lR ?_
          refine lM rfl rfl ?_
          (try simp only [Act.put, nA, nB, nC])
          refine lM rfl rfl ?_
          (try simp only [Act.put, nA, nB, nC])
          (refine ⟨?_⟩; (refine sBin (run_shlN (k := p.len.length) (by omega)) rfl rfl rfl rfl ?_; rw [HNN.out]); refine WL.h ?_)
          (try simp only [Act.put, nA, nB, nC])
          (refine ⟨?_⟩; (refine sBin (r := .bool true) (fun w => by rw [← dmt, ← dm]; rfl) rfl rfl rfl rfl ?_); refine WL.h ?_)
          (try simp only [Act.put, nA, nB, nC])
          refine lZ ?_
          clear dm dmt
          go_upto_region 17 with (first | (refine oL ?_; (first | refine sL1 hS rfl rfl rfl ?_ | refine sL2 hS rfl rfl rfl ?_ | refine sL3 hS rfl rfl ?_ | refine sL4 hS rfl rfl ?_ | refine sL5 hS rfl rfl ?_ | refine sL6 hS rfl rfl ?_ | refine sL7 hS rfl rfl ?_)) | (refine oS ?_; ((first | refine sS1 hS rfl rfl rfl ?_ | refine sS2 hS rfl rfl rfl ?_ | refine sS3 hS rfl rfl rfl ?_ | refine sS4 hS rfl rfl rfl ?_ | refine sS5 hS rfl rfl rfl ?_); clear hS; intro w hS)) | ((first | refine sN1 hS rfl ?_); clear hS; first | ((fail_if_success guard_hyp g1); intro g1 w hS) | ((fail_if_success guard_hyp g2); intro g2 w hS) | fail) | fail)
          have HZ := Lib.hid (bit_val m r)
          generalize hb : m.testBit r = b at *
          have HB := Lib.hid hb
          clear hb
          have HBV := Lib.hid (show (m / 2 ^ r &&& 1) = if b = true then 1 else 0 from HZ.out)
          cases b with
          | true =>
            refine lR ?_
            refine lM rfl rfl ?_
            (try simp only [Act.put, nA, nB, nC])
            refine lM rfl rfl ?_
            (try simp only [Act.put, nA, nB, nC])
            (refine ⟨?_⟩; (refine sBin (run_shrN (m := m) (k := r) (by omega)) rfl rfl rfl rfl ?_); refine WL.h ?_)
            (try simp only [Act.put, nA, nB, nC])
            (refine ⟨?_⟩; (refine sBin (run_andN (a := m / 2 ^ r) (b := 1) (HDV.out r) (by omega)) rfl rfl rfl rfl ?_; rw [show (m / 2 ^ r &&& 1) = 1 from HBV.out]); refine WL.h ?_)
            (try simp only [Act.put, nA, nB, nC])
            refine lP rfl ?_
            (try simp only [Act.put, nA, nB, nC])
            refine lA rfl rfl ?_
            (try simp only [Act.put, nA, nB, nC])
            refine lZ ?_
            go_wp2_with (first | (refine oL ?_; (first | refine sL1 hS rfl rfl rfl ?_ | refine sL2 hS rfl rfl rfl ?_ | refine sL3 hS rfl rfl ?_ | refine sL4 hS rfl rfl ?_ | refine sL5 hS rfl rfl ?_ | refine sL6 hS rfl rfl ?_ | refine sL7 hS rfl rfl ?_)) | (refine oS ?_; ((first | refine sS1 hS rfl rfl rfl ?_ | refine sS2 hS rfl rfl rfl ?_ | refine sS3 hS rfl rfl rfl ?_ | refine sS4 hS rfl rfl rfl ?_ | refine sS5 hS rfl rfl rfl ?_); clear hS; intro w hS)) | ((first | refine sN1 hS rfl ?_); clear hS; first | ((fail_if_success guard_hyp g1); intro g1 w hS) | ((fail_if_success guard_hyp g2); intro g2 w hS) | fail) | fail)
            go_loopw [12, 13, 14] (fun s12 s13 s14 wr => ∃ (q : Nat) (c : Bool), q ≤ p.len.length ∧ s13 = .int .i64 q ∧ s12 = .bool c ∧ Hid (ClS true p m q 0 c) ∧ St w0 NoM [row (.slice L l.length cL) 3 1 l.length (ints (nats l)), froz T w2, blk g1 [.slice A1 p.len.length c1, .slice A2 p.ck.length c2, .slice A3 p.arcs.length c3] 44] wr) (fun _ s13 _ _ => p.len.length - (intOf s13).toNat)
            case atStart => exact ⟨0, true, by omega, rfl, rfl, Lib.hid ⟨fun h => ⟨h, ClU.zero p m⟩, fun h => h.1⟩, hS.re⟩
            case round =>
              clear hS
              obtain ⟨q, c, hq, rfl, rfl, HC, hS⟩ := hrel
              by_cases hqn : q < p.len.length
              · have hqn' : (q : Int) < p.len.length := by omega
                have HBQ := Lib.hid (bit_val m q)
                generalize hbq : m.testBit q = bq at *
                have HQ := Lib.hid hbq
                clear hbq
                go_wp2_with (first | (refine oL ?_; (first | refine sL1 hS rfl rfl rfl ?_ | refine sL2 hS rfl rfl rfl ?_ | refine sL3 hS rfl rfl ?_ | refine sL4 hS rfl rfl ?_ | refine sL5 hS rfl rfl ?_ | refine sL6 hS rfl rfl ?_ | refine sL7 hS rfl rfl ?_)) | (refine oS ?_; ((first | refine sS1 hS rfl rfl rfl ?_ | refine sS2 hS rfl rfl rfl ?_ | refine sS3 hS rfl rfl rfl ?_ | refine sS4 hS rfl rfl rfl ?_ | refine sS5 hS rfl rfl rfl ?_); clear hS; intro w hS)) | ((first | refine sN1 hS rfl ?_); clear hS; first | ((fail_if_success guard_hyp g1); intro g1 w hS) | ((fail_if_success guard_hyp g2); intro g2 w hS) | fail) | fail)
                go_loopw [12, 14] (fun s12 s14 wr => ∃ (s : Nat) (c : Bool), s ≤ p.len.length ∧ s14 = .int .i64 s ∧ s12 = .bool c ∧ Hid (ClS true p m q s c) ∧ St w0 NoM [row (.slice L l.length cL) 3 1 l.length (ints (nats l)), froz T w2, blk g1 [.slice A1 p.len.length c1, .slice A2 p.ck.length c2, .slice A3 p.arcs.length c3] 44] wr) (fun _ s14 _ => p.len.length - (intOf s14).toNat)
                case atStart => exact ⟨0, c, by omega, rfl, rfl, HC, hS⟩
                case round =>
                  clear hS HC
                  obtain ⟨s, c, hs, rfl, rfl, HC, hS⟩ := hrel
                  by_cases hsn : s < p.len.length
                  · have hsn' : (s : Int) < p.len.length := by omega
                    have HST := Lib.hid (ClU.step (m := m) hqn hsn)
                    rw [HQ.out] at HST
                    have HBS := Lib.hid (bit_val m s)
                    generalize hbs : m.testBit s = bs at *
                    cases bq with
                    | false =>
                      have HN : Hid (ClS true p m q (s + 1) c) := Lib.hid (by unfold ClS; rw [HST.out]; have := HC.out; unfold ClS at this; rw [this]; simp)
                      clear HC HST
                      go_upto_region 24 with (first | (refine oL ?_; (first | refine sL1 hS rfl rfl rfl ?_ | refine sL2 hS rfl rfl rfl ?_ | refine sL3 hS rfl rfl ?_ | refine sL4 hS rfl rfl ?_ | refine sL5 hS rfl rfl ?_ | refine sL6 hS rfl rfl ?_ | refine sL7 hS rfl rfl ?_)) | (refine oS ?_; ((first | refine sS1 hS rfl rfl rfl ?_ | refine sS2 hS rfl rfl rfl ?_ | refine sS3 hS rfl rfl rfl ?_ | refine sS4 hS rfl rfl rfl ?_ | refine sS5 hS rfl rfl rfl ?_); clear hS; intro w hS)) | ((first | refine sN1 hS rfl ?_); clear hS; first | ((fail_if_success guard_hyp g1); intro g1 w hS) | ((fail_if_success guard_hyp g2); intro g2 w hS) | fail) | fail)
                      refine lR ?_
                      refine lM rfl rfl ?_
                      (try simp only [Act.put, nA, nB, nC])
                      refine lM rfl rfl ?_
                      (try simp only [Act.put, nA, nB, nC])
                      (refine ⟨?_⟩; (refine sBin (run_shrN (m := m) (k := q) (by omega)) rfl rfl rfl rfl ?_); refine WL.h ?_)
                      (try simp only [Act.put, nA, nB, nC])
                      (refine ⟨?_⟩; (refine sBin (run_andN (a := m / 2 ^ q) (b := 1) (HDV.out q) (by omega)) rfl rfl rfl rfl ?_; rw [show (m / 2 ^ q &&& 1) = 0 from HBQ.out]); refine WL.h ?_)
                      (try simp only [Act.put, nA, nB, nC])
                      refine lP rfl ?_
                      (try simp only [Act.put, nA, nB, nC])
                      refine lM rfl rfl ?_
                      (try simp only [Act.put, nA, nB, nC])
                      first | refine lQ rfl ?_ | refine lM rfl rfl ?_ | fail
                      (try simp only [Act.put, nA, nB, nC])
                      first | refine lQ rfl ?_ | refine lM rfl rfl ?_ | fail
                      (try simp only [Act.put, nA, nB, nC])
                      first | refine lQ rfl ?_ | refine lP rfl ?_ | fail
                      (try simp only [Act.put, nA, nB, nC])
                      first | refine lQ rfl ?_ | refine lP rfl ?_ | fail
                      (try simp only [Act.put, nA, nB, nC])
                      first | refine lQ rfl ?_ | refine lP rfl ?_ | fail
                      (try simp only [Act.put, nA, nB, nC])
                      refine lP rfl ?_
                      (try simp only [Act.put, nA, nB, nC])
                      refine lM rfl rfl ?_
                      (try simp only [Act.put, nA, nB, nC])
                      first | refine lQ rfl ?_ | (refine ⟨?_⟩; ((first | refine sL1 hS rfl rfl rfl ?_ | refine sL2 hS rfl rfl rfl ?_ | refine sL3 hS rfl rfl ?_ | refine sL4 hS rfl rfl ?_ | refine sL5 hS rfl rfl ?_ | refine sL6 hS rfl rfl ?_ | refine sL7 hS rfl rfl ?_)); refine WL.h ?_) | fail
                      (try simp only [Act.put, nA, nB, nC])
                      first | refine lQ rfl ?_ | refine lM rfl rfl ?_ | fail
                      (try simp only [Act.put, nA, nB, nC])
                      first | refine lQ rfl ?_ | refine lM rfl rfl ?_ | fail
                      (try simp only [Act.put, nA, nB, nC])
                      refine lQ rfl ?_
                      (try simp only [Act.put, nA, nB, nC])
                      refine lP rfl ?_
                      (try simp only [Act.put, nA, nB, nC])
                      refine lZ ?_
                      go_wp2_with (first | (refine oL ?_; (first | refine sL1 hS rfl rfl rfl ?_ | refine sL2 hS rfl rfl rfl ?_ | refine sL3 hS rfl rfl ?_ | refine sL4 hS rfl rfl ?_ | refine sL5 hS rfl rfl ?_ | refine sL6 hS rfl rfl ?_ | refine sL7 hS rfl rfl ?_)) | (refine oS ?_; ((first | refine sS1 hS rfl rfl rfl ?_ | refine sS2 hS rfl rfl rfl ?_ | refine sS3 hS rfl rfl rfl ?_ | refine sS4 hS rfl rfl rfl ?_ | refine sS5 hS rfl rfl rfl ?_); clear hS; intro w hS)) | ((first | refine sN1 hS rfl ?_); clear hS; first | ((fail_if_success guard_hyp g1); intro g1 w hS) | ((fail_if_success guard_hyp g2); intro g2 w hS) | fail) | fail)
                      go_roundw
                      case measure => simp [intOf]; try omega
                      exact ⟨s + 1, c, by omega, by go_num, rfl, HN, hS⟩
                    | true =>
                      cases bs with
                      | true =>
                        have HN : Hid (ClS true p m q (s + 1) c) := Lib.hid (by unfold ClS; rw [HST.out]; have := HC.out; unfold ClS at this; rw [this]; simp)
                        clear HC HST
                        go_upto_region 24 with (first | (refine oL ?_; (first | refine sL1 hS rfl rfl rfl ?_ | refine sL2 hS rfl rfl rfl ?_ | refine sL3 hS rfl rfl ?_ | refine sL4 hS rfl rfl ?_ | refine sL5 hS rfl rfl ?_ | refine sL6 hS rfl rfl ?_ | refine sL7 hS rfl rfl ?_)) | (refine oS ?_; ((first | refine sS1 hS rfl rfl rfl ?_ | refine sS2 hS rfl rfl rfl ?_ | refine sS3 hS rfl rfl rfl ?_ | refine sS4 hS rfl rfl rfl ?_ | refine sS5 hS rfl rfl rfl ?_); clear hS; intro w hS)) | ((first | refine sN1 hS rfl ?_); clear hS; first | ((fail_if_success guard_hyp g1); intro g1 w hS) | ((fail_if_success guard_hyp g2); intro g2 w hS) | fail) | fail)
                        refine lR ?_
                        refine lM rfl rfl ?_
                        (try simp only [Act.put, nA, nB, nC])
                        refine lM rfl rfl ?_
                        (try simp only [Act.put, nA, nB, nC])
                        (refine ⟨?_⟩; (refine sBin (run_shrN (m := m) (k := q) (by omega)) rfl rfl rfl rfl ?_); refine WL.h ?_)
                        (try simp only [Act.put, nA, nB, nC])
                        (refine ⟨?_⟩; (refine sBin (run_andN (a := m / 2 ^ q) (b := 1) (HDV.out q) (by omega)) rfl rfl rfl rfl ?_; rw [show (m / 2 ^ q &&& 1) = 1 from HBQ.out]); refine WL.h ?_)
                        (try simp only [Act.put, nA, nB, nC])
                        refine lP rfl ?_
                        (try simp only [Act.put, nA, nB, nC])
                        refine lM rfl rfl ?_
                        (try simp only [Act.put, nA, nB, nC])
                        first | refine lQ rfl ?_ | refine lM rfl rfl ?_ | fail
                        (try simp only [Act.put, nA, nB, nC])
                        first | refine lQ rfl ?_ | refine lM rfl rfl ?_ | fail
                        (try simp only [Act.put, nA, nB, nC])
                        first | refine lQ rfl ?_ | (refine ⟨?_⟩; (refine sBin (run_shrN (m := m) (k := s) (by omega)) rfl rfl rfl rfl ?_); refine WL.h ?_) | fail
                        (try simp only [Act.put, nA, nB, nC])
                        first | refine lQ rfl ?_ | (refine ⟨?_⟩; (refine sBin (run_andN (a := m / 2 ^ s) (b := 1) (HDV.out s) (by omega)) rfl rfl rfl rfl ?_; rw [show (m / 2 ^ s &&& 1) = 1 from HBS.out]); refine WL.h ?_) | fail
                        (try simp only [Act.put, nA, nB, nC])
                        first | refine lQ rfl ?_ | refine lP rfl ?_ | fail
                        (try simp only [Act.put, nA, nB, nC])
                        refine lP rfl ?_
                        (try simp only [Act.put, nA, nB, nC])
                        refine lM rfl rfl ?_
                        (try simp only [Act.put, nA, nB, nC])
                        first | refine lQ rfl ?_ | (refine ⟨?_⟩; ((first | refine sL1 hS rfl rfl rfl ?_ | refine sL2 hS rfl rfl rfl ?_ | refine sL3 hS rfl rfl ?_ | refine sL4 hS rfl rfl ?_ | refine sL5 hS rfl rfl ?_ | refine sL6 hS rfl rfl ?_ | refine sL7 hS rfl rfl ?_)); refine WL.h ?_) | fail
                        (try simp only [Act.put, nA, nB, nC])
                        first | refine lQ rfl ?_ | refine lM rfl rfl ?_ | fail
                        (try simp only [Act.put, nA, nB, nC])
                        first | refine lQ rfl ?_ | refine lM rfl rfl ?_ | fail
                        (try simp only [Act.put, nA, nB, nC])
                        refine lQ rfl ?_
                        (try simp only [Act.put, nA, nB, nC])
                        refine lP rfl ?_
                        (try simp only [Act.put, nA, nB, nC])
                        refine lZ ?_
                        go_wp2_with (first | (refine oL ?_; (first | refine sL1 hS rfl rfl rfl ?_ | refine sL2 hS rfl rfl rfl ?_ | refine sL3 hS rfl rfl ?_ | refine sL4 hS rfl rfl ?_ | refine sL5 hS rfl rfl ?_ | refine sL6 hS rfl rfl ?_ | refine sL7 hS rfl rfl ?_)) | (refine oS ?_; ((first | refine sS1 hS rfl rfl rfl ?_ | refine sS2 hS rfl rfl rfl ?_ | refine sS3 hS rfl rfl rfl ?_ | refine sS4 hS rfl rfl rfl ?_ | refine sS5 hS rfl rfl rfl ?_); clear hS; intro w hS)) | ((first | refine sN1 hS rfl ?_); clear hS; first | ((fail_if_success guard_hyp g1); intro g1 w hS) | ((fail_if_success guard_hyp g2); intro g2 w hS) | fail) | fail)
                        go_roundw
                        case measure => simp [intOf]; try omega
                        exact ⟨s + 1, c, by omega, by go_num, rfl, HN, hS⟩
                      | false =>
                        generalize hsr : isSrc p s q = sr at *
                        have HSR := Lib.hid hsr
                        clear hsr
                        cases sr with
                        | false =>
                          have HN : Hid (ClS true p m q (s + 1) c) := Lib.hid (by unfold ClS; rw [HST.out]; have := HC.out; unfold ClS at this; rw [this]; simp)
                          clear HC HST
                          go_upto_region 24 with (first | (refine oL ?_; (first | refine sL1 hS rfl rfl rfl ?_ | refine sL2 hS rfl rfl rfl ?_ | refine sL3 hS rfl rfl ?_ | refine sL4 hS rfl rfl ?_ | refine sL5 hS rfl rfl ?_ | refine sL6 hS rfl rfl ?_ | refine sL7 hS rfl rfl ?_)) | (refine oS ?_; ((first | refine sS1 hS rfl rfl rfl ?_ | refine sS2 hS rfl rfl rfl ?_ | refine sS3 hS rfl rfl rfl ?_ | refine sS4 hS rfl rfl rfl ?_ | refine sS5 hS rfl rfl rfl ?_); clear hS; intro w hS)) | ((first | refine sN1 hS rfl ?_); clear hS; first | ((fail_if_success guard_hyp g1); intro g1 w hS) | ((fail_if_success guard_hyp g2); intro g2 w hS) | fail) | fail)
                          refine lR ?_
                          refine lM rfl rfl ?_
                          (try simp only [Act.put, nA, nB, nC])
                          refine lM rfl rfl ?_
                          (try simp only [Act.put, nA, nB, nC])
                          (refine ⟨?_⟩; (refine sBin (run_shrN (m := m) (k := q) (by omega)) rfl rfl rfl rfl ?_); refine WL.h ?_)
                          (try simp only [Act.put, nA, nB, nC])
                          (refine ⟨?_⟩; (refine sBin (run_andN (a := m / 2 ^ q) (b := 1) (HDV.out q) (by omega)) rfl rfl rfl rfl ?_; rw [show (m / 2 ^ q &&& 1) = 1 from HBQ.out]); refine WL.h ?_)
                          (try simp only [Act.put, nA, nB, nC])
                          refine lP rfl ?_
                          (try simp only [Act.put, nA, nB, nC])
                          refine lM rfl rfl ?_
                          (try simp only [Act.put, nA, nB, nC])
                          first | refine lQ rfl ?_ | refine lM rfl rfl ?_ | fail
                          (try simp only [Act.put, nA, nB, nC])
                          first | refine lQ rfl ?_ | refine lM rfl rfl ?_ | fail
                          (try simp only [Act.put, nA, nB, nC])
                          first | refine lQ rfl ?_ | (refine ⟨?_⟩; (refine sBin (run_shrN (m := m) (k := s) (by omega)) rfl rfl rfl rfl ?_); refine WL.h ?_) | fail
                          (try simp only [Act.put, nA, nB, nC])
                          first | refine lQ rfl ?_ | (refine ⟨?_⟩; (refine sBin (run_andN (a := m / 2 ^ s) (b := 1) (HDV.out s) (by omega)) rfl rfl rfl rfl ?_; rw [show (m / 2 ^ s &&& 1) = 0 from HBS.out]); refine WL.h ?_) | fail
                          (try simp only [Act.put, nA, nB, nC])
                          first | refine lQ rfl ?_ | refine lP rfl ?_ | fail
                          (try simp only [Act.put, nA, nB, nC])
                          refine lP rfl ?_
                          (try simp only [Act.put, nA, nB, nC])
                          refine lM rfl rfl ?_
                          (try simp only [Act.put, nA, nB, nC])
                          first | refine lQ rfl ?_ | (refine ⟨?_⟩; ((first | refine sL1 hS rfl rfl rfl ?_ | refine sL2 hS rfl rfl rfl ?_ | refine sL3 hS rfl rfl ?_ | refine sL4 hS rfl rfl ?_ | refine sL5 hS rfl rfl ?_ | refine sL6 hS rfl rfl ?_ | refine sL7 hS rfl rfl ?_)); refine WL.h ?_) | fail
                          (try simp only [Act.put, nA, nB, nC])
                          first | refine lQ rfl ?_ | refine lM rfl rfl ?_ | fail
                          (try simp only [Act.put, nA, nB, nC])
                          first | refine lQ rfl ?_ | refine lM rfl rfl ?_ | fail
                          (try simp only [Act.put, nA, nB, nC])
                          first | refine lQ rfl ?_ | (refine ⟨?_⟩; (refine st_call rfl (by kernel_rfl) rfl ?_; go_at_call 24; refine (needs_any ⟨A1, c1, A2, c2, A3, c3⟩ p s q _ (HPA.out.into hS.frozInto) HG.out hsn hqn).mono ?_; rintro e w ⟨rfl, hx1⟩; replace hS := hS.ext hx1; clear hx1; rw [HSR.out]); refine WL.h ?_) | fail
                          (try simp only [Act.put, nA, nB, nC])
                          refine lP rfl ?_
                          (try simp only [Act.put, nA, nB, nC])
                          refine lZ ?_
                          go_wp2_with (first | (refine oL ?_; (first | refine sL1 hS rfl rfl rfl ?_ | refine sL2 hS rfl rfl rfl ?_ | refine sL3 hS rfl rfl ?_ | refine sL4 hS rfl rfl ?_ | refine sL5 hS rfl rfl ?_ | refine sL6 hS rfl rfl ?_ | refine sL7 hS rfl rfl ?_)) | (refine oS ?_; ((first | refine sS1 hS rfl rfl rfl ?_ | refine sS2 hS rfl rfl rfl ?_ | refine sS3 hS rfl rfl rfl ?_ | refine sS4 hS rfl rfl rfl ?_ | refine sS5 hS rfl rfl rfl ?_); clear hS; intro w hS)) | ((first | refine sN1 hS rfl ?_); clear hS; first | ((fail_if_success guard_hyp g1); intro g1 w hS) | ((fail_if_success guard_hyp g2); intro g2 w hS) | fail) | fail)
                          go_roundw
                          case measure => simp [intOf]; try omega
                          exact ⟨s + 1, c, by omega, by go_num, rfl, HN, hS⟩
                        | true =>
                          have HN : Hid (ClS true p m q (s + 1) false) := Lib.hid (by unfold ClS; rw [HST.out]; simp)
                          clear HC HST
                          go_upto_region 24 with (first | (refine oL ?_; (first | refine sL1 hS rfl rfl rfl ?_ | refine sL2 hS rfl rfl rfl ?_ | refine sL3 hS rfl rfl ?_ | refine sL4 hS rfl rfl ?_ | refine sL5 hS rfl rfl ?_ | refine sL6 hS rfl rfl ?_ | refine sL7 hS rfl rfl ?_)) | (refine oS ?_; ((first | refine sS1 hS rfl rfl rfl ?_ | refine sS2 hS rfl rfl rfl ?_ | refine sS3 hS rfl rfl rfl ?_ | refine sS4 hS rfl rfl rfl ?_ | refine sS5 hS rfl rfl rfl ?_); clear hS; intro w hS)) | ((first | refine sN1 hS rfl ?_); clear hS; first | ((fail_if_success guard_hyp g1); intro g1 w hS) | ((fail_if_success guard_hyp g2); intro g2 w hS) | fail) | fail)
                          refine lR ?_
                          refine lM rfl rfl ?_
                          (try simp only [Act.put, nA, nB, nC])
                          refine lM rfl rfl ?_
                          (try simp only [Act.put, nA, nB, nC])
                          (refine ⟨?_⟩; (refine sBin (run_shrN (m := m) (k := q) (by omega)) rfl rfl rfl rfl ?_); refine WL.h ?_)
                          (try simp only [Act.put, nA, nB, nC])
                          (refine ⟨?_⟩; (refine sBin (run_andN (a := m / 2 ^ q) (b := 1) (HDV.out q) (by omega)) rfl rfl rfl rfl ?_; rw [show (m / 2 ^ q &&& 1) = 1 from HBQ.out]); refine WL.h ?_)
                          (try simp only [Act.put, nA, nB, nC])
                          refine lP rfl ?_
                          (try simp only [Act.put, nA, nB, nC])
                          refine lM rfl rfl ?_
                          (try simp only [Act.put, nA, nB, nC])
                          first | refine lQ rfl ?_ | refine lM rfl rfl ?_ | fail
                          (try simp only [Act.put, nA, nB, nC])
                          first | refine lQ rfl ?_ | refine lM rfl rfl ?_ | fail
                          (try simp only [Act.put, nA, nB, nC])
                          first | refine lQ rfl ?_ | (refine ⟨?_⟩; (refine sBin (run_shrN (m := m) (k := s) (by omega)) rfl rfl rfl rfl ?_); refine WL.h ?_) | fail
                          (try simp only [Act.put, nA, nB, nC])
                          first | refine lQ rfl ?_ | (refine ⟨?_⟩; (refine sBin (run_andN (a := m / 2 ^ s) (b := 1) (HDV.out s) (by omega)) rfl rfl rfl rfl ?_; rw [show (m / 2 ^ s &&& 1) = 0 from HBS.out]); refine WL.h ?_) | fail
                          (try simp only [Act.put, nA, nB, nC])
                          first | refine lQ rfl ?_ | refine lP rfl ?_ | fail
                          (try simp only [Act.put, nA, nB, nC])
                          refine lP rfl ?_
                          (try simp only [Act.put, nA, nB, nC])
                          refine lM rfl rfl ?_
                          (try simp only [Act.put, nA, nB, nC])
                          first | refine lQ rfl ?_ | (refine ⟨?_⟩; ((first | refine sL1 hS rfl rfl rfl ?_ | refine sL2 hS rfl rfl rfl ?_ | refine sL3 hS rfl rfl ?_ | refine sL4 hS rfl rfl ?_ | refine sL5 hS rfl rfl ?_ | refine sL6 hS rfl rfl ?_ | refine sL7 hS rfl rfl ?_)); refine WL.h ?_) | fail
                          (try simp only [Act.put, nA, nB, nC])
                          first | refine lQ rfl ?_ | refine lM rfl rfl ?_ | fail
                          (try simp only [Act.put, nA, nB, nC])
                          first | refine lQ rfl ?_ | refine lM rfl rfl ?_ | fail
                          (try simp only [Act.put, nA, nB, nC])
                          first | refine lQ rfl ?_ | (refine ⟨?_⟩; (refine st_call rfl (by kernel_rfl) rfl ?_; go_at_call 24; refine (needs_any ⟨A1, c1, A2, c2, A3, c3⟩ p s q _ (HPA.out.into hS.frozInto) HG.out hsn hqn).mono ?_; rintro e w ⟨rfl, hx1⟩; replace hS := hS.ext hx1; clear hx1; rw [HSR.out]); refine WL.h ?_) | fail
                          (try simp only [Act.put, nA, nB, nC])
                          refine lP rfl ?_
                          (try simp only [Act.put, nA, nB, nC])
                          refine lZ ?_
                          go_wp2_with (first | (refine oL ?_; (first | refine sL1 hS rfl rfl rfl ?_ | refine sL2 hS rfl rfl rfl ?_ | refine sL3 hS rfl rfl ?_ | refine sL4 hS rfl rfl ?_ | refine sL5 hS rfl rfl ?_ | refine sL6 hS rfl rfl ?_ | refine sL7 hS rfl rfl ?_)) | (refine oS ?_; ((first | refine sS1 hS rfl rfl rfl ?_ | refine sS2 hS rfl rfl rfl ?_ | refine sS3 hS rfl rfl rfl ?_ | refine sS4 hS rfl rfl rfl ?_ | refine sS5 hS rfl rfl rfl ?_); clear hS; intro w hS)) | ((first | refine sN1 hS rfl ?_); clear hS; first | ((fail_if_success guard_hyp g1); intro g1 w hS) | ((fail_if_success guard_hyp g2); intro g2 w hS) | fail) | fail)
                          go_roundw
                          case measure => simp [intOf]; try omega
                          exact ⟨s + 1, false, by omega, by go_num, rfl, HN, hS⟩
                  · have HE := Lib.hid (show s = p.len.length by omega)
                    have hsn' : ¬ (s : Int) < p.len.length := by omega
                    have HN : Hid (ClS true p m (q + 1) 0 c) := Lib.hid (by unfold ClS; rw [← ClU.next, ← HE.out]; exact HC.out)
                    clear HC
                    go_wp2_with (first | (refine oL ?_; (first | refine sL1 hS rfl rfl rfl ?_ | refine sL2 hS rfl rfl rfl ?_ | refine sL3 hS rfl rfl ?_ | refine sL4 hS rfl rfl ?_ | refine sL5 hS rfl rfl ?_ | refine sL6 hS rfl rfl ?_ | refine sL7 hS rfl rfl ?_)) | (refine oS ?_; ((first | refine sS1 hS rfl rfl rfl ?_ | refine sS2 hS rfl rfl rfl ?_ | refine sS3 hS rfl rfl rfl ?_ | refine sS4 hS rfl rfl rfl ?_ | refine sS5 hS rfl rfl rfl ?_); clear hS; intro w hS)) | ((first | refine sN1 hS rfl ?_); clear hS; first | ((fail_if_success guard_hyp g1); intro g1 w hS) | ((fail_if_success guard_hyp g2); intro g2 w hS) | fail) | fail)
                    go_roundw
                    case measure => simp [intOf]; try omega
                    exact ⟨q + 1, c, by omega, by go_num, rfl, HN, hS⟩
              · have hqn' : ¬ (q : Int) < p.len.length := by omega
                have HE := Lib.hid (show q = p.len.length by omega)
                have HCF : Hid (ClS true p m p.len.length 0 c) := Lib.hid (by rw [← HE.out]; exact HC.out)
                have hmk := HMK.out
                cases c with
                | true =>
                  have HAN := Lib.hid (show m &&& mk = mk by rw [← HK.out]; exact clu_all hr HM.out (HB.out.trans (HCF.out.1 rfl).1) (HCF.out.1 rfl).2)
                  have en : ((mk : Int) != (mk : Int)) = false := by simp
                  generalize hem : ((m : Int) == (mk : Int)) = em at *
                  have HEM := Lib.hid hem
                  cases em
                  all_goals
                    go_upto_region 26 with (first | (refine oL ?_; (first | refine sL1 hS rfl rfl rfl ?_ | refine sL2 hS rfl rfl rfl ?_ | refine sL3 hS rfl rfl ?_ | refine sL4 hS rfl rfl ?_ | refine sL5 hS rfl rfl ?_ | refine sL6 hS rfl rfl ?_ | refine sL7 hS rfl rfl ?_)) | (refine oS ?_; ((first | refine sS1 hS rfl rfl rfl ?_ | refine sS2 hS rfl rfl rfl ?_ | refine sS3 hS rfl rfl rfl ?_ | refine sS4 hS rfl rfl rfl ?_ | refine sS5 hS rfl rfl rfl ?_); clear hS; intro w hS)) | ((first | refine sN1 hS rfl ?_); clear hS; first | ((fail_if_success guard_hyp g1); intro g1 w hS) | ((fail_if_success guard_hyp g2); intro g2 w hS) | fail) | fail)
                    refine lR ?_
                    refine lM rfl rfl ?_
                    (try simp only [Act.put, nA, nB, nC])
                    refine lM rfl rfl ?_
                    (try simp only [Act.put, nA, nB, nC])
                    first | refine lQ rfl ?_ | refine lM rfl rfl ?_ | fail
                    (try simp only [Act.put, nA, nB, nC])
                    first | refine lQ rfl ?_ | refine lM rfl rfl ?_ | fail
                    (try simp only [Act.put, nA, nB, nC])
                    first | refine lQ rfl ?_ | (refine ⟨?_⟩; (refine sBin (run_andN (a := m) (b := mk) (by omega) (by omega)) rfl rfl rfl rfl ?_; rw [HAN.out]); refine WL.h ?_) | fail
                    (try simp only [Act.put, nA, nB, nC])
                    first | refine lQ rfl ?_ | refine lM rfl rfl ?_ | fail
                    (try simp only [Act.put, nA, nB, nC])
                    first | refine lQ rfl ?_ | refine lP rfl ?_ | fail
                    (try simp only [Act.put, nA, nB, nC])
                    refine lP rfl ?_
                    (try simp only [Act.put, nA, nB, nC])
                    refine lM rfl rfl ?_
                    (try simp only [Act.put, nA, nB, nC])
                    first | refine lQ rfl ?_ | refine lM rfl rfl ?_ | fail
                    (try simp only [Act.put, nA, nB, nC])
                    first | refine lQ rfl ?_ | refine lM rfl rfl ?_ | fail
                    (try simp only [Act.put, nA, nB, nC])
                    first | refine lQ rfl ?_ | refine lP rfl ?_ | fail
                    (try simp only [Act.put, nA, nB, nC])
                    first | refine lQ rfl ?_ | refine lM rfl rfl ?_ | fail
                    (try simp only [Act.put, nA, nB, nC])
                    first | refine lQ rfl ?_ | refine lM rfl rfl ?_ | fail
                    (try simp only [Act.put, nA, nB, nC])
                    first | refine lQ rfl ?_ | refine lP rfl ?_ | fail
                    (try simp only [Act.put, nA, nB, nC])
                    first | refine lQ rfl ?_ | refine lP rfl ?_ | fail
                    (try simp only [Act.put, nA, nB, nC])
                    refine lP rfl ?_
                    (try simp only [Act.put, nA, nB, nC])
                    refine lZ ?_
                    go_wp2_with (first | (refine oL ?_; (first | refine sL1 hS rfl rfl rfl ?_ | refine sL2 hS rfl rfl rfl ?_ | refine sL3 hS rfl rfl ?_ | refine sL4 hS rfl rfl ?_ | refine sL5 hS rfl rfl ?_ | refine sL6 hS rfl rfl ?_ | refine sL7 hS rfl rfl ?_)) | (refine oS ?_; ((first | refine sS1 hS rfl rfl rfl ?_ | refine sS2 hS rfl rfl rfl ?_ | refine sS3 hS rfl rfl rfl ?_ | refine sS4 hS rfl rfl rfl ?_ | refine sS5 hS rfl rfl rfl ?_); clear hS; intro w hS)) | ((first | refine sN1 hS rfl ?_); clear hS; first | ((fail_if_success guard_hyp g1); intro g1 w hS) | ((fail_if_success guard_hyp g2); intro g2 w hS) | fail) | fail)
                    go_roundw
                    case measure => simp [intOf]; try omega
                    exact ⟨m + 1, by omega, by go_num, hS⟩
                | false =>
                  have hem : ((m : Int) == (mk : Int)) = false := by
                    cases h : ((m : Int) == (mk : Int)) with
                    | false => rfl
                    | true =>
                      have e : m = mk := by simp at h; omega
                      obtain ⟨k1, k2⟩ := mask_clu HG.out HM.out
                      rw [HK.out, ← e] at k1 k2
                      exact (HCF.out.2 ⟨HB.out.symm.trans k1, k2⟩).symm
                  go_upto_region 26 with (first | (refine oL ?_; (first | refine sL1 hS rfl rfl rfl ?_ | refine sL2 hS rfl rfl rfl ?_ | refine sL3 hS rfl rfl ?_ | refine sL4 hS rfl rfl ?_ | refine sL5 hS rfl rfl ?_ | refine sL6 hS rfl rfl ?_ | refine sL7 hS rfl rfl ?_)) | (refine oS ?_; ((first | refine sS1 hS rfl rfl rfl ?_ | refine sS2 hS rfl rfl rfl ?_ | refine sS3 hS rfl rfl rfl ?_ | refine sS4 hS rfl rfl rfl ?_ | refine sS5 hS rfl rfl rfl ?_); clear hS; intro w hS)) | ((first | refine sN1 hS rfl ?_); clear hS; first | ((fail_if_success guard_hyp g1); intro g1 w hS) | ((fail_if_success guard_hyp g2); intro g2 w hS) | fail) | fail)
                  refine lR ?_
                  refine lM rfl rfl ?_
                  (try simp only [Act.put, nA, nB, nC])
                  refine lM rfl rfl ?_
                  (try simp only [Act.put, nA, nB, nC])
                  first | refine lQ rfl ?_ | refine lM rfl rfl ?_ | fail
                  (try simp only [Act.put, nA, nB, nC])
                  first | refine lQ rfl ?_ | refine lM rfl rfl ?_ | fail
                  (try simp only [Act.put, nA, nB, nC])
                  first | refine lQ rfl ?_ | refine lP rfl ?_ | fail
                  (try simp only [Act.put, nA, nB, nC])
                  first | refine lQ rfl ?_ | refine lM rfl rfl ?_ | fail
                  (try simp only [Act.put, nA, nB, nC])
                  first | refine lQ rfl ?_ | refine lP rfl ?_ | fail
                  (try simp only [Act.put, nA, nB, nC])
                  refine lP rfl ?_
                  (try simp only [Act.put, nA, nB, nC])
                  refine lM rfl rfl ?_
                  (try simp only [Act.put, nA, nB, nC])
                  first | refine lQ rfl ?_ | refine lM rfl rfl ?_ | fail
                  (try simp only [Act.put, nA, nB, nC])
                  first | refine lQ rfl ?_ | refine lM rfl rfl ?_ | fail
                  (try simp only [Act.put, nA, nB, nC])
                  first | refine lQ rfl ?_ | refine lP rfl ?_ | fail
                  (try simp only [Act.put, nA, nB, nC])
                  first | refine lQ rfl ?_ | refine lM rfl rfl ?_ | fail
                  (try simp only [Act.put, nA, nB, nC])
                  first | refine lQ rfl ?_ | refine lM rfl rfl ?_ | fail
                  (try simp only [Act.put, nA, nB, nC])
                  first | refine lQ rfl ?_ | refine lP rfl ?_ | fail
                  (try simp only [Act.put, nA, nB, nC])
                  first | refine lQ rfl ?_ | refine lP rfl ?_ | fail
                  (try simp only [Act.put, nA, nB, nC])
                  refine lP rfl ?_
                  (try simp only [Act.put, nA, nB, nC])
                  refine lZ ?_
                  go_wp2_with (first | (refine oL ?_; (first | refine sL1 hS rfl rfl rfl ?_ | refine sL2 hS rfl rfl rfl ?_ | refine sL3 hS rfl rfl ?_ | refine sL4 hS rfl rfl ?_ | refine sL5 hS rfl rfl ?_ | refine sL6 hS rfl rfl ?_ | refine sL7 hS rfl rfl ?_)) | (refine oS ?_; ((first | refine sS1 hS rfl rfl rfl ?_ | refine sS2 hS rfl rfl rfl ?_ | refine sS3 hS rfl rfl rfl ?_ | refine sS4 hS rfl rfl rfl ?_ | refine sS5 hS rfl rfl rfl ?_); clear hS; intro w hS)) | ((first | refine sN1 hS rfl ?_); clear hS; first | ((fail_if_success guard_hyp g1); intro g1 w hS) | ((fail_if_success guard_hyp g2); intro g2 w hS) | fail) | fail)
                  go_roundw
                  case measure => simp [intOf]; try omega
                  exact ⟨m + 1, by omega, by go_num, hS⟩
          | false =>
            refine lR ?_
            refine lM rfl rfl ?_
            (try simp only [Act.put, nA, nB, nC])
            refine lM rfl rfl ?_
            (try simp only [Act.put, nA, nB, nC])
            (refine ⟨?_⟩; (refine sBin (run_shrN (m := m) (k := r) (by omega)) rfl rfl rfl rfl ?_); refine WL.h ?_)
            (try simp only [Act.put, nA, nB, nC])
            (refine ⟨?_⟩; (refine sBin (run_andN (a := m / 2 ^ r) (b := 1) (HDV.out r) (by omega)) rfl rfl rfl rfl ?_; rw [show (m / 2 ^ r &&& 1) = 0 from HBV.out]); refine WL.h ?_)
            (try simp only [Act.put, nA, nB, nC])
            refine lP rfl ?_
            (try simp only [Act.put, nA, nB, nC])
            refine lA rfl rfl ?_
            (try simp only [Act.put, nA, nB, nC])
            refine lZ ?_
            go_wp2_with (first | (refine oL ?_; (first | refine sL1 hS rfl rfl rfl ?_ | refine sL2 hS rfl rfl rfl ?_ | refine sL3 hS rfl rfl ?_ | refine sL4 hS rfl rfl ?_ | refine sL5 hS rfl rfl ?_ | refine sL6 hS rfl rfl ?_ | refine sL7 hS rfl rfl ?_)) | (refine oS ?_; ((first | refine sS1 hS rfl rfl rfl ?_ | refine sS2 hS rfl rfl rfl ?_ | refine sS3 hS rfl rfl rfl ?_ | refine sS4 hS rfl rfl rfl ?_ | refine sS5 hS rfl rfl rfl ?_); clear hS; intro w hS)) | ((first | refine sN1 hS rfl ?_); clear hS; first | ((fail_if_success guard_hyp g1); intro g1 w hS) | ((fail_if_success guard_hyp g2); intro g2 w hS) | fail) | fail)
            go_loopw [12, 13, 14] (fun s12 s13 s14 wr => ∃ (q : Nat) (c : Bool), q ≤ p.len.length ∧ s13 = .int .i64 q ∧ s12 = .bool c ∧ Hid (ClS false p m q 0 c) ∧ St w0 NoM [row (.slice L l.length cL) 3 1 l.length (ints (nats l)), froz T w2, blk g1 [.slice A1 p.len.length c1, .slice A2 p.ck.length c2, .slice A3 p.arcs.length c3] 44] wr) (fun _ s13 _ _ => p.len.length - (intOf s13).toNat)
            case atStart => exact ⟨0, false, by omega, rfl, rfl, Lib.hid ⟨fun h => ⟨h, ClU.zero p m⟩, fun h => h.1⟩, hS.re⟩
            case round =>
              clear hS
              obtain ⟨q, c, hq, rfl, rfl, HC, hS⟩ := hrel
              by_cases hqn : q < p.len.length
              · have hqn' : (q : Int) < p.len.length := by omega
                have HBQ := Lib.hid (bit_val m q)
                generalize hbq : m.testBit q = bq at *
                have HQ := Lib.hid hbq
                clear hbq
                go_wp2_with (first | (refine oL ?_; (first | refine sL1 hS rfl rfl rfl ?_ | refine sL2 hS rfl rfl rfl ?_ | refine sL3 hS rfl rfl ?_ | refine sL4 hS rfl rfl ?_ | refine sL5 hS rfl rfl ?_ | refine sL6 hS rfl rfl ?_ | refine sL7 hS rfl rfl ?_)) | (refine oS ?_; ((first | refine sS1 hS rfl rfl rfl ?_ | refine sS2 hS rfl rfl rfl ?_ | refine sS3 hS rfl rfl rfl ?_ | refine sS4 hS rfl rfl rfl ?_ | refine sS5 hS rfl rfl rfl ?_); clear hS; intro w hS)) | ((first | refine sN1 hS rfl ?_); clear hS; first | ((fail_if_success guard_hyp g1); intro g1 w hS) | ((fail_if_success guard_hyp g2); intro g2 w hS) | fail) | fail)
                go_loopw [12, 14] (fun s12 s14 wr => ∃ (s : Nat) (c : Bool), s ≤ p.len.length ∧ s14 = .int .i64 s ∧ s12 = .bool c ∧ Hid (ClS false p m q s c) ∧ St w0 NoM [row (.slice L l.length cL) 3 1 l.length (ints (nats l)), froz T w2, blk g1 [.slice A1 p.len.length c1, .slice A2 p.ck.length c2, .slice A3 p.arcs.length c3] 44] wr) (fun _ s14 _ => p.len.length - (intOf s14).toNat)
                case atStart => exact ⟨0, c, by omega, rfl, rfl, HC, hS⟩
                case round =>
                  clear hS HC
                  obtain ⟨s, c, hs, rfl, rfl, HC, hS⟩ := hrel
                  by_cases hsn : s < p.len.length
                  · have hsn' : (s : Int) < p.len.length := by omega
                    have HST := Lib.hid (ClU.step (m := m) hqn hsn)
                    rw [HQ.out] at HST
                    have HBS := Lib.hid (bit_val m s)
                    generalize hbs : m.testBit s = bs at *
                    cases bq with
                    | false =>
                      have HN : Hid (ClS false p m q (s + 1) c) := Lib.hid (by unfold ClS; rw [HST.out]; have := HC.out; unfold ClS at this; rw [this]; simp)
                      clear HC HST
                      go_upto_region 24 with (first | (refine oL ?_; (first | refine sL1 hS rfl rfl rfl ?_ | refine sL2 hS rfl rfl rfl ?_ | refine sL3 hS rfl rfl ?_ | refine sL4 hS rfl rfl ?_ | refine sL5 hS rfl rfl ?_ | refine sL6 hS rfl rfl ?_ | refine sL7 hS rfl rfl ?_)) | (refine oS ?_; ((first | refine sS1 hS rfl rfl rfl ?_ | refine sS2 hS rfl rfl rfl ?_ | refine sS3 hS rfl rfl rfl ?_ | refine sS4 hS rfl rfl rfl ?_ | refine sS5 hS rfl rfl rfl ?_); clear hS; intro w hS)) | ((first | refine sN1 hS rfl ?_); clear hS; first | ((fail_if_success guard_hyp g1); intro g1 w hS) | ((fail_if_success guard_hyp g2); intro g2 w hS) | fail) | fail)
                      refine lR ?_
                      refine lM rfl rfl ?_
                      (try simp only [Act.put, nA, nB, nC])
                      refine lM rfl rfl ?_
                      (try simp only [Act.put, nA, nB, nC])
                      (refine ⟨?_⟩; (refine sBin (run_shrN (m := m) (k := q) (by omega)) rfl rfl rfl rfl ?_); refine WL.h ?_)
                      (try simp only [Act.put, nA, nB, nC])
                      (refine ⟨?_⟩; (refine sBin (run_andN (a := m / 2 ^ q) (b := 1) (HDV.out q) (by omega)) rfl rfl rfl rfl ?_; rw [show (m / 2 ^ q &&& 1) = 0 from HBQ.out]); refine WL.h ?_)
                      (try simp only [Act.put, nA, nB, nC])
                      refine lP rfl ?_
                      (try simp only [Act.put, nA, nB, nC])
                      refine lM rfl rfl ?_
                      (try simp only [Act.put, nA, nB, nC])
                      first | refine lQ rfl ?_ | refine lM rfl rfl ?_ | fail
                      (try simp only [Act.put, nA, nB, nC])
                      first | refine lQ rfl ?_ | refine lM rfl rfl ?_ | fail
                      (try simp only [Act.put, nA, nB, nC])
                      first | refine lQ rfl ?_ | refine lP rfl ?_ | fail
                      (try simp only [Act.put, nA, nB, nC])
                      first | refine lQ rfl ?_ | refine lP rfl ?_ | fail
                      (try simp only [Act.put, nA, nB, nC])
                      first | refine lQ rfl ?_ | refine lP rfl ?_ | fail
                      (try simp only [Act.put, nA, nB, nC])
                      refine lP rfl ?_
                      (try simp only [Act.put, nA, nB, nC])
                      refine lM rfl rfl ?_
                      (try simp only [Act.put, nA, nB, nC])
                      first | refine lQ rfl ?_ | (refine ⟨?_⟩; ((first | refine sL1 hS rfl rfl rfl ?_ | refine sL2 hS rfl rfl rfl ?_ | refine sL3 hS rfl rfl ?_ | refine sL4 hS rfl rfl ?_ | refine sL5 hS rfl rfl ?_ | refine sL6 hS rfl rfl ?_ | refine sL7 hS rfl rfl ?_)); refine WL.h ?_) | fail
                      (try simp only [Act.put, nA, nB, nC])
                      first | refine lQ rfl ?_ | refine lM rfl rfl ?_ | fail
                      (try simp only [Act.put, nA, nB, nC])
                      first | refine lQ rfl ?_ | refine lM rfl rfl ?_ | fail
                      (try simp only [Act.put, nA, nB, nC])
                      refine lQ rfl ?_
                      (try simp only [Act.put, nA, nB, nC])
                      refine lP rfl ?_
                      (try simp only [Act.put, nA, nB, nC])
                      refine lZ ?_
                      go_wp2_with (first | (refine oL ?_; (first | refine sL1 hS rfl rfl rfl ?_ | refine sL2 hS rfl rfl rfl ?_ | refine sL3 hS rfl rfl ?_ | refine sL4 hS rfl rfl ?_ | refine sL5 hS rfl rfl ?_ | refine sL6 hS rfl rfl ?_ | refine sL7 hS rfl rfl ?_)) | (refine oS ?_; ((first | refine sS1 hS rfl rfl rfl ?_ | refine sS2 hS rfl rfl rfl ?_ | refine sS3 hS rfl rfl rfl ?_ | refine sS4 hS rfl rfl rfl ?_ | refine sS5 hS rfl rfl rfl ?_); clear hS; intro w hS)) | ((first | refine sN1 hS rfl ?_); clear hS; first | ((fail_if_success guard_hyp g1); intro g1 w hS) | ((fail_if_success guard_hyp g2); intro g2 w hS) | fail) | fail)
                      go_roundw
                      case measure => simp [intOf]; try omega
                      exact ⟨s + 1, c, by omega, by go_num, rfl, HN, hS⟩
                    | true =>
                      cases bs with
                      | true =>
                        have HN : Hid (ClS false p m q (s + 1) c) := Lib.hid (by unfold ClS; rw [HST.out]; have := HC.out; unfold ClS at this; rw [this]; simp)
                        clear HC HST
                        go_upto_region 24 with (first | (refine oL ?_; (first | refine sL1 hS rfl rfl rfl ?_ | refine sL2 hS rfl rfl rfl ?_ | refine sL3 hS rfl rfl ?_ | refine sL4 hS rfl rfl ?_ | refine sL5 hS rfl rfl ?_ | refine sL6 hS rfl rfl ?_ | refine sL7 hS rfl rfl ?_)) | (refine oS ?_; ((first | refine sS1 hS rfl rfl rfl ?_ | refine sS2 hS rfl rfl rfl ?_ | refine sS3 hS rfl rfl rfl ?_ | refine sS4 hS rfl rfl rfl ?_ | refine sS5 hS rfl rfl rfl ?_); clear hS; intro w hS)) | ((first | refine sN1 hS rfl ?_); clear hS; first | ((fail_if_success guard_hyp g1); intro g1 w hS) | ((fail_if_success guard_hyp g2); intro g2 w hS) | fail) | fail)
                        refine lR ?_
                        refine lM rfl rfl ?_
                        (try simp only [Act.put, nA, nB, nC])
                        refine lM rfl rfl ?_
                        (try simp only [Act.put, nA, nB, nC])
                        (refine ⟨?_⟩; (refine sBin (run_shrN (m := m) (k := q) (by omega)) rfl rfl rfl rfl ?_); refine WL.h ?_)
                        (try simp only [Act.put, nA, nB, nC])
                        (refine ⟨?_⟩; (refine sBin (run_andN (a := m / 2 ^ q) (b := 1) (HDV.out q) (by omega)) rfl rfl rfl rfl ?_; rw [show (m / 2 ^ q &&& 1) = 1 from HBQ.out]); refine WL.h ?_)
                        (try simp only [Act.put, nA, nB, nC])
                        refine lP rfl ?_
                        (try simp only [Act.put, nA, nB, nC])
                        refine lM rfl rfl ?_
                        (try simp only [Act.put, nA, nB, nC])
                        first | refine lQ rfl ?_ | refine lM rfl rfl ?_ | fail
                        (try simp only [Act.put, nA, nB, nC])
                        first | refine lQ rfl ?_ | refine lM rfl rfl ?_ | fail
                        (try simp only [Act.put, nA, nB, nC])
                        first | refine lQ rfl ?_ | (refine ⟨?_⟩; (refine sBin (run_shrN (m := m) (k := s) (by omega)) rfl rfl rfl rfl ?_); refine WL.h ?_) | fail
                        (try simp only [Act.put, nA, nB, nC])
                        first | refine lQ rfl ?_ | (refine ⟨?_⟩; (refine sBin (run_andN (a := m / 2 ^ s) (b := 1) (HDV.out s) (by omega)) rfl rfl rfl rfl ?_; rw [show (m / 2 ^ s &&& 1) = 1 from HBS.out]); refine WL.h ?_) | fail
                        (try simp only [Act.put, nA, nB, nC])
                        first | refine lQ rfl ?_ | refine lP rfl ?_ | fail
                        (try simp only [Act.put, nA, nB, nC])
                        refine lP rfl ?_
                        (try simp only [Act.put, nA, nB, nC])
                        refine lM rfl rfl ?_
                        (try simp only [Act.put, nA, nB, nC])
                        first | refine lQ rfl ?_ | (refine ⟨?_⟩; ((first | refine sL1 hS rfl rfl rfl ?_ | refine sL2 hS rfl rfl rfl ?_ | refine sL3 hS rfl rfl ?_ | refine sL4 hS rfl rfl ?_ | refine sL5 hS rfl rfl ?_ | refine sL6 hS rfl rfl ?_ | refine sL7 hS rfl rfl ?_)); refine WL.h ?_) | fail
                        (try simp only [Act.put, nA, nB, nC])
                        first | refine lQ rfl ?_ | refine lM rfl rfl ?_ | fail
                        (try simp only [Act.put, nA, nB, nC])
                        first | refine lQ rfl ?_ | refine lM rfl rfl ?_ | fail
                        (try simp only [Act.put, nA, nB, nC])
                        refine lQ rfl ?_
                        (try simp only [Act.put, nA, nB, nC])
                        refine lP rfl ?_
                        (try simp only [Act.put, nA, nB, nC])
                        refine lZ ?_
                        go_wp2_with (first | (refine oL ?_; (first | refine sL1 hS rfl rfl rfl ?_ | refine sL2 hS rfl rfl rfl ?_ | refine sL3 hS rfl rfl ?_ | refine sL4 hS rfl rfl ?_ | refine sL5 hS rfl rfl ?_ | refine sL6 hS rfl rfl ?_ | refine sL7 hS rfl rfl ?_)) | (refine oS ?_; ((first | refine sS1 hS rfl rfl rfl ?_ | refine sS2 hS rfl rfl rfl ?_ | refine sS3 hS rfl rfl rfl ?_ | refine sS4 hS rfl rfl rfl ?_ | refine sS5 hS rfl rfl rfl ?_); clear hS; intro w hS)) | ((first | refine sN1 hS rfl ?_); clear hS; first | ((fail_if_success guard_hyp g1); intro g1 w hS) | ((fail_if_success guard_hyp g2); intro g2 w hS) | fail) | fail)
                        go_roundw
                        case measure => simp [intOf]; try omega
                        exact ⟨s + 1, c, by omega, by go_num, rfl, HN, hS⟩
                      | false =>
                        generalize hsr : isSrc p s q = sr at *
                        have HSR := Lib.hid hsr
                        clear hsr
                        cases sr with
                        | false =>
                          have HN : Hid (ClS false p m q (s + 1) c) := Lib.hid (by unfold ClS; rw [HST.out]; have := HC.out; unfold ClS at this; rw [this]; simp)
                          clear HC HST
                          go_upto_region 24 with (first | (refine oL ?_; (first | refine sL1 hS rfl rfl rfl ?_ | refine sL2 hS rfl rfl rfl ?_ | refine sL3 hS rfl rfl ?_ | refine sL4 hS rfl rfl ?_ | refine sL5 hS rfl rfl ?_ | refine sL6 hS rfl rfl ?_ | refine sL7 hS rfl rfl ?_)) | (refine oS ?_; ((first | refine sS1 hS rfl rfl rfl ?_ | refine sS2 hS rfl rfl rfl ?_ | refine sS3 hS rfl rfl rfl ?_ | refine sS4 hS rfl rfl rfl ?_ | refine sS5 hS rfl rfl rfl ?_); clear hS; intro w hS)) | ((first | refine sN1 hS rfl ?_); clear hS; first | ((fail_if_success guard_hyp g1); intro g1 w hS) | ((fail_if_success guard_hyp g2); intro g2 w hS) | fail) | fail)
                          refine lR ?_
                          refine lM rfl rfl ?_
                          (try simp only [Act.put, nA, nB, nC])
                          refine lM rfl rfl ?_
                          (try simp only [Act.put, nA, nB, nC])
                          (refine ⟨?_⟩; (refine sBin (run_shrN (m := m) (k := q) (by omega)) rfl rfl rfl rfl ?_); refine WL.h ?_)
                          (try simp only [Act.put, nA, nB, nC])
                          (refine ⟨?_⟩; (refine sBin (run_andN (a := m / 2 ^ q) (b := 1) (HDV.out q) (by omega)) rfl rfl rfl rfl ?_; rw [show (m / 2 ^ q &&& 1) = 1 from HBQ.out]); refine WL.h ?_)
                          (try simp only [Act.put, nA, nB, nC])
                          refine lP rfl ?_
                          (try simp only [Act.put, nA, nB, nC])
                          refine lM rfl rfl ?_
                          (try simp only [Act.put, nA, nB, nC])
                          first | refine lQ rfl ?_ | refine lM rfl rfl ?_ | fail
                          (try simp only [Act.put, nA, nB, nC])
                          first | refine lQ rfl ?_ | refine lM rfl rfl ?_ | fail
                          (try simp only [Act.put, nA, nB, nC])
                          first | refine lQ rfl ?_ | (refine ⟨?_⟩; (refine sBin (run_shrN (m := m) (k := s) (by omega)) rfl rfl rfl rfl ?_); refine WL.h ?_) | fail
                          (try simp only [Act.put, nA, nB, nC])
                          first | refine lQ rfl ?_ | (refine ⟨?_⟩; (refine sBin (run_andN (a := m / 2 ^ s) (b := 1) (HDV.out s) (by omega)) rfl rfl rfl rfl ?_; rw [show (m / 2 ^ s &&& 1) = 0 from HBS.out]); refine WL.h ?_) | fail
                          (try simp only [Act.put, nA, nB, nC])
                          first | refine lQ rfl ?_ | refine lP rfl ?_ | fail
                          (try simp only [Act.put, nA, nB, nC])
                          refine lP rfl ?_
                          (try simp only [Act.put, nA, nB, nC])
                          refine lM rfl rfl ?_
                          (try simp only [Act.put, nA, nB, nC])
                          first | refine lQ rfl ?_ | (refine ⟨?_⟩; ((first | refine sL1 hS rfl rfl rfl ?_ | refine sL2 hS rfl rfl rfl ?_ | refine sL3 hS rfl rfl ?_ | refine sL4 hS rfl rfl ?_ | refine sL5 hS rfl rfl ?_ | refine sL6 hS rfl rfl ?_ | refine sL7 hS rfl rfl ?_)); refine WL.h ?_) | fail
                          (try simp only [Act.put, nA, nB, nC])
                          first | refine lQ rfl ?_ | refine lM rfl rfl ?_ | fail
                          (try simp only [Act.put, nA, nB, nC])
                          first | refine lQ rfl ?_ | refine lM rfl rfl ?_ | fail
                          (try simp only [Act.put, nA, nB, nC])
                          first | refine lQ rfl ?_ | (refine ⟨?_⟩; (refine st_call rfl (by kernel_rfl) rfl ?_; go_at_call 24; refine (needs_any ⟨A1, c1, A2, c2, A3, c3⟩ p s q _ (HPA.out.into hS.frozInto) HG.out hsn hqn).mono ?_; rintro e w ⟨rfl, hx1⟩; replace hS := hS.ext hx1; clear hx1; rw [HSR.out]); refine WL.h ?_) | fail
                          (try simp only [Act.put, nA, nB, nC])
                          refine lP rfl ?_
                          (try simp only [Act.put, nA, nB, nC])
                          refine lZ ?_
                          go_wp2_with (first | (refine oL ?_; (first | refine sL1 hS rfl rfl rfl ?_ | refine sL2 hS rfl rfl rfl ?_ | refine sL3 hS rfl rfl ?_ | refine sL4 hS rfl rfl ?_ | refine sL5 hS rfl rfl ?_ | refine sL6 hS rfl rfl ?_ | refine sL7 hS rfl rfl ?_)) | (refine oS ?_; ((first | refine sS1 hS rfl rfl rfl ?_ | refine sS2 hS rfl rfl rfl ?_ | refine sS3 hS rfl rfl rfl ?_ | refine sS4 hS rfl rfl rfl ?_ | refine sS5 hS rfl rfl rfl ?_); clear hS; intro w hS)) | ((first | refine sN1 hS rfl ?_); clear hS; first | ((fail_if_success guard_hyp g1); intro g1 w hS) | ((fail_if_success guard_hyp g2); intro g2 w hS) | fail) | fail)
                          go_roundw
                          case measure => simp [intOf]; try omega
                          exact ⟨s + 1, c, by omega, by go_num, rfl, HN, hS⟩
                        | true =>
                          have HN : Hid (ClS false p m q (s + 1) false) := Lib.hid (by unfold ClS; rw [HST.out]; simp)
                          clear HC HST
                          go_upto_region 24 with (first | (refine oL ?_; (first | refine sL1 hS rfl rfl rfl ?_ | refine sL2 hS rfl rfl rfl ?_ | refine sL3 hS rfl rfl ?_ | refine sL4 hS rfl rfl ?_ | refine sL5 hS rfl rfl ?_ | refine sL6 hS rfl rfl ?_ | refine sL7 hS rfl rfl ?_)) | (refine oS ?_; ((first | refine sS1 hS rfl rfl rfl ?_ | refine sS2 hS rfl rfl rfl ?_ | refine sS3 hS rfl rfl rfl ?_ | refine sS4 hS rfl rfl rfl ?_ | refine sS5 hS rfl rfl rfl ?_); clear hS; intro w hS)) | ((first | refine sN1 hS rfl ?_); clear hS; first | ((fail_if_success guard_hyp g1); intro g1 w hS) | ((fail_if_success guard_hyp g2); intro g2 w hS) | fail) | fail)
                          refine lR ?_
                          refine lM rfl rfl ?_
                          (try simp only [Act.put, nA, nB, nC])
                          refine lM rfl rfl ?_
                          (try simp only [Act.put, nA, nB, nC])
                          (refine ⟨?_⟩; (refine sBin (run_shrN (m := m) (k := q) (by omega)) rfl rfl rfl rfl ?_); refine WL.h ?_)
                          (try simp only [Act.put, nA, nB, nC])
                          (refine ⟨?_⟩; (refine sBin (run_andN (a := m / 2 ^ q) (b := 1) (HDV.out q) (by omega)) rfl rfl rfl rfl ?_; rw [show (m / 2 ^ q &&& 1) = 1 from HBQ.out]); refine WL.h ?_)
                          (try simp only [Act.put, nA, nB, nC])
                          refine lP rfl ?_
                          (try simp only [Act.put, nA, nB, nC])
                          refine lM rfl rfl ?_
                          (try simp only [Act.put, nA, nB, nC])
                          first | refine lQ rfl ?_ | refine lM rfl rfl ?_ | fail
                          (try simp only [Act.put, nA, nB, nC])
                          first | refine lQ rfl ?_ | refine lM rfl rfl ?_ | fail
                          (try simp only [Act.put, nA, nB, nC])
                          first | refine lQ rfl ?_ | (refine ⟨?_⟩; (refine sBin (run_shrN (m := m) (k := s) (by omega)) rfl rfl rfl rfl ?_); refine WL.h ?_) | fail
                          (try simp only [Act.put, nA, nB, nC])
                          first | refine lQ rfl ?_ | (refine ⟨?_⟩; (refine sBin (run_andN (a := m / 2 ^ s) (b := 1) (HDV.out s) (by omega)) rfl rfl rfl rfl ?_; rw [show (m / 2 ^ s &&& 1) = 0 from HBS.out]); refine WL.h ?_) | fail
                          (try simp only [Act.put, nA, nB, nC])
                          first | refine lQ rfl ?_ | refine lP rfl ?_ | fail
                          (try simp only [Act.put, nA, nB, nC])
                          refine lP rfl ?_
                          (try simp only [Act.put, nA, nB, nC])
                          refine lM rfl rfl ?_
                          (try simp only [Act.put, nA, nB, nC])
                          first | refine lQ rfl ?_ | (refine ⟨?_⟩; ((first | refine sL1 hS rfl rfl rfl ?_ | refine sL2 hS rfl rfl rfl ?_ | refine sL3 hS rfl rfl ?_ | refine sL4 hS rfl rfl ?_ | refine sL5 hS rfl rfl ?_ | refine sL6 hS rfl rfl ?_ | refine sL7 hS rfl rfl ?_)); refine WL.h ?_) | fail
                          (try simp only [Act.put, nA, nB, nC])
                          first | refine lQ rfl ?_ | refine lM rfl rfl ?_ | fail
                          (try simp only [Act.put, nA, nB, nC])
                          first | refine lQ rfl ?_ | refine lM rfl rfl ?_ | fail
                          (try simp only [Act.put, nA, nB, nC])
                          first | refine lQ rfl ?_ | (refine ⟨?_⟩; (refine st_call rfl (by kernel_rfl) rfl ?_; go_at_call 24; refine (needs_any ⟨A1, c1, A2, c2, A3, c3⟩ p s q _ (HPA.out.into hS.frozInto) HG.out hsn hqn).mono ?_; rintro e w ⟨rfl, hx1⟩; replace hS := hS.ext hx1; clear hx1; rw [HSR.out]); refine WL.h ?_) | fail
                          (try simp only [Act.put, nA, nB, nC])
                          refine lP rfl ?_
                          (try simp only [Act.put, nA, nB, nC])
                          refine lZ ?_
                          go_wp2_with (first | (refine oL ?_; (first | refine sL1 hS rfl rfl rfl ?_ | refine sL2 hS rfl rfl rfl ?_ | refine sL3 hS rfl rfl ?_ | refine sL4 hS rfl rfl ?_ | refine sL5 hS rfl rfl ?_ | refine sL6 hS rfl rfl ?_ | refine sL7 hS rfl rfl ?_)) | (refine oS ?_; ((first | refine sS1 hS rfl rfl rfl ?_ | refine sS2 hS rfl rfl rfl ?_ | refine sS3 hS rfl rfl rfl ?_ | refine sS4 hS rfl rfl rfl ?_ | refine sS5 hS rfl rfl rfl ?_); clear hS; intro w hS)) | ((first | refine sN1 hS rfl ?_); clear hS; first | ((fail_if_success guard_hyp g1); intro g1 w hS) | ((fail_if_success guard_hyp g2); intro g2 w hS) | fail) | fail)
                          go_roundw
                          case measure => simp [intOf]; try omega
                          exact ⟨s + 1, false, by omega, by go_num, rfl, HN, hS⟩
                  · have HE := Lib.hid (show s = p.len.length by omega)
                    have hsn' : ¬ (s : Int) < p.len.length := by omega
                    have HN : Hid (ClS false p m (q + 1) 0 c) := Lib.hid (by unfold ClS; rw [← ClU.next, ← HE.out]; exact HC.out)
                    clear HC
                    go_wp2_with (first | (refine oL ?_; (first | refine sL1 hS rfl rfl rfl ?_ | refine sL2 hS rfl rfl rfl ?_ | refine sL3 hS rfl rfl ?_ | refine sL4 hS rfl rfl ?_ | refine sL5 hS rfl rfl ?_ | refine sL6 hS rfl rfl ?_ | refine sL7 hS rfl rfl ?_)) | (refine oS ?_; ((first | refine sS1 hS rfl rfl rfl ?_ | refine sS2 hS rfl rfl rfl ?_ | refine sS3 hS rfl rfl rfl ?_ | refine sS4 hS rfl rfl rfl ?_ | refine sS5 hS rfl rfl rfl ?_); clear hS; intro w hS)) | ((first | refine sN1 hS rfl ?_); clear hS; first | ((fail_if_success guard_hyp g1); intro g1 w hS) | ((fail_if_success guard_hyp g2); intro g2 w hS) | fail) | fail)
                    go_roundw
                    case measure => simp [intOf]; try omega
                    exact ⟨q + 1, c, by omega, by go_num, rfl, HN, hS⟩
              · have hqn' : ¬ (q : Int) < p.len.length := by omega
                have HE := Lib.hid (show q = p.len.length by omega)
                have HCF : Hid (ClS false p m p.len.length 0 c) := Lib.hid (by rw [← HE.out]; exact HC.out)
                have hmk := HMK.out
                cases c with
                | true =>
                  have HAN := Lib.hid (show m &&& mk = mk by rw [← HK.out]; exact clu_all hr HM.out (HB.out.trans (HCF.out.1 rfl).1) (HCF.out.1 rfl).2)
                  have en : ((mk : Int) != (mk : Int)) = false := by simp
                  generalize hem : ((m : Int) == (mk : Int)) = em at *
                  have HEM := Lib.hid hem
                  cases em
                  all_goals
                    go_upto_region 26 with (first | (refine oL ?_; (first | refine sL1 hS rfl rfl rfl ?_ | refine sL2 hS rfl rfl rfl ?_ | refine sL3 hS rfl rfl ?_ | refine sL4 hS rfl rfl ?_ | refine sL5 hS rfl rfl ?_ | refine sL6 hS rfl rfl ?_ | refine sL7 hS rfl rfl ?_)) | (refine oS ?_; ((first | refine sS1 hS rfl rfl rfl ?_ | refine sS2 hS rfl rfl rfl ?_ | refine sS3 hS rfl rfl rfl ?_ | refine sS4 hS rfl rfl rfl ?_ | refine sS5 hS rfl rfl rfl ?_); clear hS; intro w hS)) | ((first | refine sN1 hS rfl ?_); clear hS; first | ((fail_if_success guard_hyp g1); intro g1 w hS) | ((fail_if_success guard_hyp g2); intro g2 w hS) | fail) | fail)
                    refine lR ?_
                    refine lM rfl rfl ?_
                    (try simp only [Act.put, nA, nB, nC])
                    refine lM rfl rfl ?_
                    (try simp only [Act.put, nA, nB, nC])
                    first | refine lQ rfl ?_ | refine lM rfl rfl ?_ | fail
                    (try simp only [Act.put, nA, nB, nC])
                    first | refine lQ rfl ?_ | refine lM rfl rfl ?_ | fail
                    (try simp only [Act.put, nA, nB, nC])
                    first | refine lQ rfl ?_ | (refine ⟨?_⟩; (refine sBin (run_andN (a := m) (b := mk) (by omega) (by omega)) rfl rfl rfl rfl ?_; rw [HAN.out]); refine WL.h ?_) | fail
                    (try simp only [Act.put, nA, nB, nC])
                    first | refine lQ rfl ?_ | refine lM rfl rfl ?_ | fail
                    (try simp only [Act.put, nA, nB, nC])
                    first | refine lQ rfl ?_ | refine lP rfl ?_ | fail
                    (try simp only [Act.put, nA, nB, nC])
                    refine lP rfl ?_
                    (try simp only [Act.put, nA, nB, nC])
                    refine lM rfl rfl ?_
                    (try simp only [Act.put, nA, nB, nC])
                    first | refine lQ rfl ?_ | refine lM rfl rfl ?_ | fail
                    (try simp only [Act.put, nA, nB, nC])
                    first | refine lQ rfl ?_ | refine lM rfl rfl ?_ | fail
                    (try simp only [Act.put, nA, nB, nC])
                    first | refine lQ rfl ?_ | refine lP rfl ?_ | fail
                    (try simp only [Act.put, nA, nB, nC])
                    first | refine lQ rfl ?_ | refine lM rfl rfl ?_ | fail
                    (try simp only [Act.put, nA, nB, nC])
                    first | refine lQ rfl ?_ | refine lM rfl rfl ?_ | fail
                    (try simp only [Act.put, nA, nB, nC])
                    first | refine lQ rfl ?_ | refine lP rfl ?_ | fail
                    (try simp only [Act.put, nA, nB, nC])
                    first | refine lQ rfl ?_ | refine lP rfl ?_ | fail
                    (try simp only [Act.put, nA, nB, nC])
                    refine lP rfl ?_
                    (try simp only [Act.put, nA, nB, nC])
                    refine lZ ?_
                    go_wp2_with (first | (refine oL ?_; (first | refine sL1 hS rfl rfl rfl ?_ | refine sL2 hS rfl rfl rfl ?_ | refine sL3 hS rfl rfl ?_ | refine sL4 hS rfl rfl ?_ | refine sL5 hS rfl rfl ?_ | refine sL6 hS rfl rfl ?_ | refine sL7 hS rfl rfl ?_)) | (refine oS ?_; ((first | refine sS1 hS rfl rfl rfl ?_ | refine sS2 hS rfl rfl rfl ?_ | refine sS3 hS rfl rfl rfl ?_ | refine sS4 hS rfl rfl rfl ?_ | refine sS5 hS rfl rfl rfl ?_); clear hS; intro w hS)) | ((first | refine sN1 hS rfl ?_); clear hS; first | ((fail_if_success guard_hyp g1); intro g1 w hS) | ((fail_if_success guard_hyp g2); intro g2 w hS) | fail) | fail)
                    go_roundw
                    case measure => simp [intOf]; try omega
                    exact ⟨m + 1, by omega, by go_num, hS⟩
                | false =>
                  have hem : ((m : Int) == (mk : Int)) = false := by
                    cases h : ((m : Int) == (mk : Int)) with
                    | false => rfl
                    | true =>
                      have e : m = mk := by simp at h; omega
                      obtain ⟨k1, k2⟩ := mask_clu HG.out HM.out
                      rw [HK.out, ← e] at k1 k2
                      exact (HCF.out.2 ⟨HB.out.symm.trans k1, k2⟩).symm
                  go_upto_region 26 with (first | (refine oL ?_; (first | refine sL1 hS rfl rfl rfl ?_ | refine sL2 hS rfl rfl rfl ?_ | refine sL3 hS rfl rfl ?_ | refine sL4 hS rfl rfl ?_ | refine sL5 hS rfl rfl ?_ | refine sL6 hS rfl rfl ?_ | refine sL7 hS rfl rfl ?_)) | (refine oS ?_; ((first | refine sS1 hS rfl rfl rfl ?_ | refine sS2 hS rfl rfl rfl ?_ | refine sS3 hS rfl rfl rfl ?_ | refine sS4 hS rfl rfl rfl ?_ | refine sS5 hS rfl rfl rfl ?_); clear hS; intro w hS)) | ((first | refine sN1 hS rfl ?_); clear hS; first | ((fail_if_success guard_hyp g1); intro g1 w hS) | ((fail_if_success guard_hyp g2); intro g2 w hS) | fail) | fail)
                  refine lR ?_
                  refine lM rfl rfl ?_
                  (try simp only [Act.put, nA, nB, nC])
                  refine lM rfl rfl ?_
                  (try simp only [Act.put, nA, nB, nC])
                  first | refine lQ rfl ?_ | refine lM rfl rfl ?_ | fail
                  (try simp only [Act.put, nA, nB, nC])
                  first | refine lQ rfl ?_ | refine lM rfl rfl ?_ | fail
                  (try simp only [Act.put, nA, nB, nC])
                  first | refine lQ rfl ?_ | refine lP rfl ?_ | fail
                  (try simp only [Act.put, nA, nB, nC])
                  first | refine lQ rfl ?_ | refine lM rfl rfl ?_ | fail
                  (try simp only [Act.put, nA, nB, nC])
                  first | refine lQ rfl ?_ | refine lP rfl ?_ | fail
                  (try simp only [Act.put, nA, nB, nC])
                  refine lP rfl ?_
                  (try simp only [Act.put, nA, nB, nC])
                  refine lM rfl rfl ?_
                  (try simp only [Act.put, nA, nB, nC])
                  first | refine lQ rfl ?_ | refine lM rfl rfl ?_ | fail
                  (try simp only [Act.put, nA, nB, nC])
                  first | refine lQ rfl ?_ | refine lM rfl rfl ?_ | fail
                  (try simp only [Act.put, nA, nB, nC])
                  first | refine lQ rfl ?_ | refine lP rfl ?_ | fail
                  (try simp only [Act.put, nA, nB, nC])
                  first | refine lQ rfl ?_ | refine lM rfl rfl ?_ | fail
                  (try simp only [Act.put, nA, nB, nC])
                  first | refine lQ rfl ?_ | refine lM rfl rfl ?_ | fail
                  (try simp only [Act.put, nA, nB, nC])
                  first | refine lQ rfl ?_ | refine lP rfl ?_ | fail
                  (try simp only [Act.put, nA, nB, nC])
                  first | refine lQ rfl ?_ | refine lP rfl ?_ | fail
                  (try simp only [Act.put, nA, nB, nC])
                  refine lP rfl ?_
                  (try simp only [Act.put, nA, nB, nC])
                  refine lZ ?_
                  go_wp2_with (first | (refine oL ?_; (first | refine sL1 hS rfl rfl rfl ?_ | refine sL2 hS rfl rfl rfl ?_ | refine sL3 hS rfl rfl ?_ | refine sL4 hS rfl rfl ?_ | refine sL5 hS rfl rfl ?_ | refine sL6 hS rfl rfl ?_ | refine sL7 hS rfl rfl ?_)) | (refine oS ?_; ((first | refine sS1 hS rfl rfl rfl ?_ | refine sS2 hS rfl rfl rfl ?_ | refine sS3 hS rfl rfl rfl ?_ | refine sS4 hS rfl rfl rfl ?_ | refine sS5 hS rfl rfl rfl ?_); clear hS; intro w hS)) | ((first | refine sN1 hS rfl ?_); clear hS; first | ((fail_if_success guard_hyp g1); intro g1 w hS) | ((fail_if_success guard_hyp g2); intro g2 w hS) | fail) | fail)
                  go_roundw
                  case measure => simp [intOf]; try omega
                  exact ⟨m + 1, by omega, by go_num, hS⟩
        · have dmt : decide (m < NN) = false := decide_eq_false hmN
          go_upto_region 15 with (first | (refine oL ?_; (first | refine sL1 hS rfl rfl rfl ?_ | refine sL2 hS rfl rfl rfl ?_ | refine sL3 hS rfl rfl ?_ | refine sL4 hS rfl rfl ?_ | refine sL5 hS rfl rfl ?_ | refine sL6 hS rfl rfl ?_ | refine sL7 hS rfl rfl ?_)) | (refine oS ?_; ((first | refine sS1 hS rfl rfl rfl ?_ | refine sS2 hS rfl rfl rfl ?_ | refine sS3 hS rfl rfl rfl ?_ | refine sS4 hS rfl rfl rfl ?_ | refine sS5 hS rfl rfl rfl ?_); clear hS; intro w hS)) | ((first | refine sN1 hS rfl ?_); clear hS; first | ((fail_if_success guard_hyp g1); intro g1 w hS) | ((fail_if_success guard_hyp g2); intro g2 w hS) | fail) | fail)
          refine lR ?_
          refine lM rfl rfl ?_
          (try simp only [Act.put, nA, nB, nC])
          refine lM rfl rfl ?_
          (try simp only [Act.put, nA, nB, nC])
          (refine ⟨?_⟩; (refine sBin (run_shlN (k := p.len.length) (by omega)) rfl rfl rfl rfl ?_; rw [HNN.out]); refine WL.h ?_)
          (try simp only [Act.put, nA, nB, nC])
          (refine ⟨?_⟩; (refine sBin (r := .bool false) (fun w => by rw [← dmt, ← dm]; rfl) rfl rfl rfl rfl ?_); refine WL.h ?_)
          (try simp only [Act.put, nA, nB, nC])
          refine lZ ?_
          go_wp2_with (first | (refine oL ?_; (first | refine sL1 hS rfl rfl rfl ?_ | refine sL2 hS rfl rfl rfl ?_ | refine sL3 hS rfl rfl ?_ | refine sL4 hS rfl rfl ?_ | refine sL5 hS rfl rfl ?_ | refine sL6 hS rfl rfl ?_ | refine sL7 hS rfl rfl ?_)) | (refine oS ?_; ((first | refine sS1 hS rfl rfl rfl ?_ | refine sS2 hS rfl rfl rfl ?_ | refine sS3 hS rfl rfl rfl ?_ | refine sS4 hS rfl rfl rfl ?_ | refine sS5 hS rfl rfl rfl ?_); clear hS; intro w hS)) | ((first | refine sN1 hS rfl ?_); clear hS; first | ((fail_if_success guard_hyp g1); intro g1 w hS) | ((fail_if_success guard_hyp g2); intro g2 w hS) | fail) | fail)
          go_ret
          exact ⟨rfl, hS.toExt⟩
open Go.ChangeShapes Go.WideShapes Go.ChangeAt
set_option maxRecDepth 100000 in
theorem lifted_TwophaseLeast (os : Os) (started : os.Started) (H : Type) (enc : TypeId × Value → H) :
    ReturnsInHanded {} Try.checked os 5 .any (Rows.twophaseLeastSpec.pre6 enc Try.prog Try.f5 Rows.twophaseLeastRow.domain false) (Rows.twophaseLeastSpec.post enc Try.prog Try.f5 false true false false) := by
  refine law_lifted (C := Try.checked) (s := Rows.twophaseLeastSpec) (tb := 4) (by kernel_rfl) started (by kernel_rfl) Try.func5
      (ChangeSpec.witness6 (enc := enc) (C := Try.checked) false ⟨#[], #[.slice none 0 0, .int .i64 0], []⟩ 8 (by kernel_rfl) (by kernel_rfl) (by kernel_rfl) (by kernel_rfl))
      (by kernel_rfl) rfl rfl Try.underlying4 (read_of (by kernel_rfl)) ?_ ?_
  · intro ds hl
    match ds, hl with
    | [d0, d1], _ => exact ⟨rfl, rfl, rfl⟩
  · intro W base args ds p hval0 hA0
    have hval : ∀ (j : Nat) t v, Try.f5.params[j]? = some t → args[j]? = some v → Value.okWide Try.prog W .any base t v := hval0
    have hA : DataW.TrodAll enc Try.prog W 0 (fun _ => true) true Try.f5.params.toList args.toList ds p := hA0
    clear hA0 hval0
    rw [Try.params5] at hA hval
    obtain ⟨v0, v1, d0, d1, p0, p1, rfl, rfl, rfl, h0, h1⟩ := trodAll_two hA
    obtain ⟨A0, c0, xs0, rfl, hri0, hc0, hd0, hwf0⟩ := open_nums Try.underlying31 Try.underlying5 (by kernel_rfl) (hval 0 _ v0 rfl rfl) h0
    obtain ⟨x1, rfl, _, _, hz1⟩ := open_int Try.underlying3 (hval 1 _ v1 rfl rfl) h1
    exact twophaseLeast_any A0 c0 xs0 x1 W hri0 hc0 hd0 (fun b hb => u8_bd (hwf0 b hb)) (i64_bd hz1)
/-- TwophaseLeast returns true for every input, and leaves its arguments as they were. -/
theorem proved_TwophaseLeast : Rows.TwophaseLeastSaid :=
  OpenClaim.holds_of_wide 5 Try.f5 rfl rfl rfl rfl rfl rfl rfl ⟨rfl, rfl, rfl, rfl, rfl⟩ rfl rfl rfl rfl rfl (by kernel_rfl) Try.func5 (by kernel_rfl)
    (of_decide_eq_true (by kernel_rfl)) (by unfold Func.isWrapper; rw [if_neg (by decide +kernel)]; exact ⟨rfl, rfl⟩)
    (fun os started H enc _ => lifted_TwophaseLeast os started H enc)
end Go.Proofs.Ytmjmdncdmmcmaaa
