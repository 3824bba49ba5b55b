/- Recovery lines: the walks of line.rows' methods. Conditions: what is handed in lies in memory. -/
import Derived.Test.YtombhhhaidmpeaaLineP
import Derived.Test.YtombhhhaidmpeaaGe
import Derived.Test.YtombhhhaidmpeaaGc
import Derived.Test.YtombhhhaidmpeaaTail
namespace Go.Proofs.Ytombhhhaidmpeaa
open Go.RowKit
set_option linter.unusedVariables false
set_option linter.unusedSimpArgs false
set_option linter.unusedSectionVars false

theorem ints_nth {l : List Int} {k : Nat} (h : k < l.length) : (ints l)[k]? = some (.int .i64 (nth l k)) := by rw [ints_get h, nth_eq h]
theorem bel_take {l : List Int} {m : Int} {j : Nat} (hj : j < l.length) : (l.take (j + 1)).foldl (belS m) none = belS m ((l.take j).foldl (belS m) none) (nth l j) := by
  rw [List.take_succ_eq_append_getElem hj, List.foldl_append, nth_eq hj]; rfl
set_option maxRecDepth 100000 in
set_option maxHeartbeats 6400000 in
theorem lower_st {w0 w u : World} {M T : Nat → Prop} {cs : List (Chunk w0 M)} (gr g1 g2 gx n n2 cx cA : Nat) (A : Option Addr) (al : List (List Int)) (x : List Int) (q : Nat) (m : Int)
    (hS : St w0 M (blk gr [.pointer (some ⟨g1, 0, none⟩), .pointer (some ⟨g2, 0, none⟩), .slice (some ⟨gx, 0, none⟩) n cx] 120 :: row (.slice (some ⟨gx, 0, none⟩) n cx) 3 1 n (ints x) :: blk g2 [.slice A n2 cA] 25 :: froz T u :: cs) w) (hal : RR T u A al) (hn2 : al.length = n2) (hxl : x.length = n) (hq : q < n) (hq2 : q < n2) (hn5 : n ≤ 5) (hn25 : n2 ≤ 1000) (hl : (rowOf al q).length ≤ 1000) (v : Option Int) (hv : bel (rowOf al q) m = v) (x2 : List Int) (hx2 : x.set q (v.getD (nth x q)) = x2) :
    Calls Try.prog 77 #[.pointer (some ⟨gr, 0, none⟩), .int .i64 (q : Int), .int .i64 m] w fun e w' => e = .returned (.bool v.isSome) ∧ St w0 M (blk gr [.pointer (some ⟨g1, 0, none⟩), .pointer (some ⟨g2, 0, none⟩), .slice (some ⟨gx, 0, none⟩) n cx] 120 :: row (.slice (some ⟨gx, 0, none⟩) n cx) 3 1 n (ints x2) :: blk g2 [.slice A n2 cA] 25 :: froz T u :: cs) w' := by
  subst hn2
  obtain ⟨b1, o1, B, cB, rfl, hfc, hB, hcB, hcB'⟩ := hal.fc hq2
  have HV := Lib.hid hv
  have HX2 := Lib.hid hx2
  have HB := Lib.hid hB
  have hxs : ∀ z, (x.set q z).length = n := fun z => by rw [List.length_set]; exact hxl
  have HXS := Lib.hid (And.intro hxs hxl)
  have hq' : (q : Int) < n := by omega
  have hq2' : (q : Int) < al.length := by omega
  clear hv hB hal hxs hxl hx2
  generalize rowOf al q = l at *
  go_enter Try.func77, Try.ntmps77
  go_wp2_with (first | (refine oL ?_; (first | refine sL1 hS rfl rfl rfl ?_ | refine sL2 hS rfl rfl rfl ?_ | refine sL3 hS rfl rfl ?_ | refine sL4 hS rfl rfl ?_ | refine sL5 hS rfl rfl ?_ | refine sL6 hS rfl rfl ?_ | refine sL7 hS rfl rfl ?_)) | (refine oS ?_; ((first | refine sS1 hS rfl rfl rfl ?_ | refine sS2 hS rfl rfl rfl ?_ | refine sS3 hS rfl rfl rfl ?_ | refine sS4 hS rfl rfl rfl ?_ | refine sS5 hS rfl rfl rfl ?_); clear hS; intro w hS)) | fail)
  go_loopw [7, 20] (fun s7 s20 wr => ∃ (j : Nat) (acc : Option Int), j ≤ l.length ∧ s20 = .int .i64 j ∧ s7 = .bool acc.isSome ∧ Hid ((l.take j).foldl (belS m) none = acc) ∧ St w0 M (blk gr [.pointer (some ⟨g1, 0, none⟩), .pointer (some ⟨g2, 0, none⟩), .slice (some ⟨gx, 0, none⟩) n cx] 120 :: row (.slice (some ⟨gx, 0, none⟩) n cx) 3 1 n (ints (x.set q (acc.getD (nth x q)))) :: blk g2 [.slice (some ⟨b1, o1, none⟩) al.length cA] 25 :: froz T u :: cs) wr) (fun _ s20 _ => l.length - (intOf s20).toNat)
  case atStart =>
    have e : x.set q (nth x q) = x := by rw [nth_eq (by rw [HXS.out.2]; exact hq)]; exact List.set_getElem_self _
    exact ⟨0, none, by omega, rfl, rfl, Lib.hid rfl, by simp only [Option.getD_none]; rw [e]; exact hS.re⟩
  case round =>
    clear hS
    obtain ⟨j, acc, hj, rfl, rfl, HA, hS⟩ := hrel
    by_cases hjl : j < l.length
    · have hjl' : (j : Int) < l.length := by omega
      obtain ⟨b4, o4, rfl, hfk⟩ := HB.out.fc hjl
      have HT := Lib.hid (bel_take (m := m) hjl)
      have hcx := ints_nth (l := x.set q (acc.getD (nth x q))) (k := q) (by rw [HXS.out.1]; exact hq)
      rw [nth_set_same (by rw [HXS.out.2]; exact hq)] at hcx
      have hqs : ∀ z, q < (x.set q z).length := fun z => by rw [HXS.out.1]; exact hq
      have hqx := hqs (acc.getD (nth x q))
      clear hqs
      generalize nth l j = k at *
      by_cases hkm : k ≤ m
      · have dm : decide (k ≤ m) = true := decide_eq_true hkm
        cases acc with
        | none =>
          have HN := Lib.hid (show (l.take (j + 1)).foldl (belS m) none = some k by rw [HT.out, HA.out, belS, if_pos hkm])
          simp only [Option.getD_none, Option.isSome_none] at *
          clear hkm
          go_wp2_with (first | (refine oL ?_; (first | refine sL1 hS rfl rfl rfl ?_ | refine sL2 hS rfl rfl rfl ?_ | refine sL3 hS rfl rfl ?_ | refine sL4 hS rfl rfl ?_ | refine sL5 hS rfl rfl ?_ | refine sL6 hS rfl rfl ?_ | refine sL7 hS rfl rfl ?_)) | (refine oS ?_; ((first | refine sS1 hS rfl rfl rfl ?_ | refine sS2 hS rfl rfl rfl ?_ | refine sS3 hS rfl rfl rfl ?_ | refine sS4 hS rfl rfl rfl ?_ | refine sS5 hS rfl rfl rfl ?_); clear hS; intro w hS)) | fail)
          go_roundw
          case measure => simp [intOf]; omega
          refine ⟨j + 1, some k, by omega, by go_num, rfl, HN, ?_⟩
          simp only [List.set_set] at hS
          exact hS
        | some b =>
          simp only [Option.getD_some, Option.isSome_some] at *
          by_cases hb : b < k
          · have HN := Lib.hid (show (l.take (j + 1)).foldl (belS m) none = some k by rw [HT.out, HA.out, belS, if_pos ⟨hkm, hb⟩])
            have db : decide (b < k) = true := decide_eq_true hb
            clear hkm hb
            go_wp2_with (first | (refine oL ?_; (first | refine sL1 hS rfl rfl rfl ?_ | refine sL2 hS rfl rfl rfl ?_ | refine sL3 hS rfl rfl ?_ | refine sL4 hS rfl rfl ?_ | refine sL5 hS rfl rfl ?_ | refine sL6 hS rfl rfl ?_ | refine sL7 hS rfl rfl ?_)) | (refine oS ?_; ((first | refine sS1 hS rfl rfl rfl ?_ | refine sS2 hS rfl rfl rfl ?_ | refine sS3 hS rfl rfl rfl ?_ | refine sS4 hS rfl rfl rfl ?_ | refine sS5 hS rfl rfl rfl ?_); clear hS; intro w hS)) | fail)
            go_roundw
            case measure => simp [intOf]; omega
            refine ⟨j + 1, some k, by omega, by go_num, rfl, HN, ?_⟩
            simp only [List.set_set] at hS
            exact hS
          · have HN := Lib.hid (show (l.take (j + 1)).foldl (belS m) none = some b by rw [HT.out, HA.out, belS, if_neg (fun h => hb h.2)])
            have db : decide (b < k) = false := decide_eq_false hb
            clear hkm hb
            go_wp2_with (first | (refine oL ?_; (first | refine sL1 hS rfl rfl rfl ?_ | refine sL2 hS rfl rfl rfl ?_ | refine sL3 hS rfl rfl ?_ | refine sL4 hS rfl rfl ?_ | refine sL5 hS rfl rfl ?_ | refine sL6 hS rfl rfl ?_ | refine sL7 hS rfl rfl ?_)) | (refine oS ?_; ((first | refine sS1 hS rfl rfl rfl ?_ | refine sS2 hS rfl rfl rfl ?_ | refine sS3 hS rfl rfl rfl ?_ | refine sS4 hS rfl rfl rfl ?_ | refine sS5 hS rfl rfl rfl ?_); clear hS; intro w hS)) | fail)
            go_roundw
            case measure => simp [intOf]; omega
            exact ⟨j + 1, some b, by omega, by go_num, rfl, HN, hS⟩
      · have dm : decide (k ≤ m) = false := decide_eq_false hkm
        have HN := Lib.hid (show (l.take (j + 1)).foldl (belS m) none = acc by
          rw [HT.out, HA.out]
          cases acc with
          | none => rw [belS, if_neg hkm]
          | some b => rw [belS, if_neg (fun h => hkm h.1)])
        clear hkm
        cases acc with
        | none =>
          simp only [Option.getD_none, Option.isSome_none] at *
          go_wp2_with (first | (refine oL ?_; (first | refine sL1 hS rfl rfl rfl ?_ | refine sL2 hS rfl rfl rfl ?_ | refine sL3 hS rfl rfl ?_ | refine sL4 hS rfl rfl ?_ | refine sL5 hS rfl rfl ?_ | refine sL6 hS rfl rfl ?_ | refine sL7 hS rfl rfl ?_)) | (refine oS ?_; ((first | refine sS1 hS rfl rfl rfl ?_ | refine sS2 hS rfl rfl rfl ?_ | refine sS3 hS rfl rfl rfl ?_ | refine sS4 hS rfl rfl rfl ?_ | refine sS5 hS rfl rfl rfl ?_); clear hS; intro w hS)) | fail)
          go_roundw
          case measure => simp [intOf]; omega
          exact ⟨j + 1, none, by omega, by go_num, rfl, HN, hS⟩
        | some b =>
          simp only [Option.getD_some, Option.isSome_some] at *
          go_wp2_with (first | (refine oL ?_; (first | refine sL1 hS rfl rfl rfl ?_ | refine sL2 hS rfl rfl rfl ?_ | refine sL3 hS rfl rfl ?_ | refine sL4 hS rfl rfl ?_ | refine sL5 hS rfl rfl ?_ | refine sL6 hS rfl rfl ?_ | refine sL7 hS rfl rfl ?_)) | (refine oS ?_; ((first | refine sS1 hS rfl rfl rfl ?_ | refine sS2 hS rfl rfl rfl ?_ | refine sS3 hS rfl rfl rfl ?_ | refine sS4 hS rfl rfl rfl ?_ | refine sS5 hS rfl rfl rfl ?_); clear hS; intro w hS)) | fail)
          go_roundw
          case measure => simp [intOf]; omega
          exact ⟨j + 1, some b, by omega, by go_num, rfl, HN, hS⟩
    · have hjl' : ¬ (j : Int) < l.length := by omega
      have HE := Lib.hid (show acc = v by rw [← HV.out, ← HA.out, List.take_of_length_le (by omega)]; rfl)
      go_wp2_with (first | (refine oL ?_; (first | refine sL1 hS rfl rfl rfl ?_ | refine sL2 hS rfl rfl rfl ?_ | refine sL3 hS rfl rfl ?_ | refine sL4 hS rfl rfl ?_ | refine sL5 hS rfl rfl ?_ | refine sL6 hS rfl rfl ?_ | refine sL7 hS rfl rfl ?_)) | (refine oS ?_; ((first | refine sS1 hS rfl rfl rfl ?_ | refine sS2 hS rfl rfl rfl ?_ | refine sS3 hS rfl rfl rfl ?_ | refine sS4 hS rfl rfl rfl ?_ | refine sS5 hS rfl rfl rfl ?_); clear hS; intro w hS)) | fail)
      go_ret
      have e2 : x.set q (acc.getD (nth x q)) = x2 := by rw [HE.out]; exact HX2.out
      rw [e2] at hS
      exact ⟨by rw [← HE.out]; rfl, hS⟩
set_option maxRecDepth 100000 in
set_option maxHeartbeats 6400000 in
theorem lorphan_st {w0 w u : World} {M T : Nat → Prop} {cs : List (Chunk w0 M)} (gr gp gq gx n cx c1 c2 c3 n2 : Nat) (A1 A2 A3 : Option Addr) (az : List Arc) (x : List Int)
    (hS : St w0 M (blk gr [.pointer (some ⟨gp, 0, none⟩), .pointer (some ⟨gq, 0, none⟩), .slice (some ⟨gx, 0, none⟩) n cx] 120 :: row (.slice (some ⟨gx, 0, none⟩) n cx) 3 1 n (ints x) :: blk gp [.slice A1 n c1, .slice A2 n2 c2, .slice A3 az.length c3] 28 :: froz T u :: cs) w) (ha : RA T u A3 az) (hxl : x.length = n) (hok : ∀ a ∈ az, a.fr < n ∧ a.to < n ∧ 0 ≤ a.at_) (hn5 : n ≤ 5) (hfew : az.length ≤ 256) (r : Option Arc) (hr : az.find? (orph · x) = r) :
    Calls Try.prog 78 #[.pointer (some ⟨gr, 0, none⟩)] w fun e w' => e = .returned (.tuple #[.agg (arcCells (r.getD arc0)).toArray, .bool r.isSome]) ∧ St w0 M (blk gr [.pointer (some ⟨gp, 0, none⟩), .pointer (some ⟨gq, 0, none⟩), .slice (some ⟨gx, 0, none⟩) n cx] 120 :: row (.slice (some ⟨gx, 0, none⟩) n cx) 3 1 n (ints x) :: blk gp [.slice A1 n c1, .slice A2 n2 c2, .slice A3 az.length c3] 28 :: froz T u :: cs) w' := by
  have HR := Lib.hid hr
  have HA := Lib.hid ha
  have HOK := Lib.hid hok
  have HXL := Lib.hid hxl
  clear hr ha hok hxl
  go_enter Try.func78, Try.ntmps78
  go_wp2_with (first | (refine oL ?_; (first | refine sL1 hS rfl rfl rfl ?_ | refine sL2 hS rfl rfl rfl ?_ | refine sL3 hS rfl rfl ?_ | refine sL4 hS rfl rfl ?_ | refine sL5 hS rfl rfl ?_ | refine sL6 hS rfl rfl ?_ | refine sL7 hS rfl rfl ?_)) | (refine oS ?_; ((first | refine sS1 hS rfl rfl rfl ?_ | refine sS2 hS rfl rfl rfl ?_ | refine sS3 hS rfl rfl rfl ?_ | refine sS4 hS rfl rfl rfl ?_ | refine sS5 hS rfl rfl rfl ?_); clear hS; intro w hS)) | ((first | refine sN1 hS rfl ?_); clear hS; first | ((fail_if_success guard_hyp g1); intro g1 w hS) | ((fail_if_success guard_hyp g2); intro g2 w hS) | ((fail_if_success guard_hyp g3); intro g3 w hS) | fail) | fail)
  go_loopw [14] (fun s14 wr => ∃ (j : Nat), j ≤ az.length ∧ s14 = .int .i64 j ∧ Hid (∀ a ∈ az.take j, orph a x = false) ∧ St w0 M (blk gr [.pointer (some ⟨gp, 0, none⟩), .pointer (some ⟨gq, 0, none⟩), .slice (some ⟨gx, 0, none⟩) n cx] 120 :: row (.slice (some ⟨gx, 0, none⟩) n cx) 3 1 n (ints x) :: blk gp [.slice A1 n c1, .slice A2 n2 c2, .slice A3 az.length c3] 28 :: froz T u :: blk g1 [.int .i64 0, .int .i64 0, .int .i64 0, .int .i64 0] 71 :: cs) wr) (fun s14 _ => az.length - (intOf s14).toNat)
  case atStart => exact ⟨0, by omega, rfl, Lib.hid (by simp), hS.re⟩
  case round =>
    clear hS
    obtain ⟨j, hj, rfl, HN, hS⟩ := hrel
    by_cases hjl : j < az.length
    · have hjl' : (j : Int) < az.length := by omega
      obtain ⟨b1, o1, rfl, hfc⟩ := HA.out.fcs hjl
      obtain ⟨h1, h2, h3⟩ := HOK.out _ (List.getElem_mem hjl)
      have HT := Lib.hid (show ∀ b : Bool, orph az[j] x = b → b = false → ∀ a ∈ az.take (j + 1), orph a x = false from fun b hb hb2 a ha => by
        rw [List.take_succ_eq_append_getElem hjl] at ha
        rcases List.mem_append.1 ha with ha | ha
        · exact HN.out a ha
        · rw [List.mem_singleton.1 ha, hb, hb2])
      have HF := Lib.hid (fun (h : orph az[j] x = true) => show r = some az[j] by rw [← HR.out]; exact find_at hjl HN.out h)
      generalize az[j] = a at *
      have hxt := ints_nth (l := x) (k := a.to) (by rw [HXL.out]; exact h2)
      have hxf := ints_nth (l := x) (k := a.fr) (by rw [HXL.out]; exact h1)
      have h1' : (a.fr : Int) < n := by omega
      have h2' : (a.to : Int) < n := by omega
      have HO := Lib.hid (orph_iff (a := a) (x := x))
      generalize nth x a.to = xt at *
      generalize nth x a.fr = xf at *
      obtain ⟨fr, ix, to_, at_⟩ := a
      simp only [arcCells] at *
      by_cases h0 : at_ = 0
      · have d0 : (at_ != 0) = false := by simp [h0]
        have HT2 := Lib.hid (HT.out false (by rw [← Bool.not_eq_true]; intro h; have := (HO.out.1 h).1; omega) rfl)
        clear h0
        go_wp2_with (first | (refine oL ?_; (first | refine sL1 hS rfl rfl rfl ?_ | refine sL2 hS rfl rfl rfl ?_ | refine sL3 hS rfl rfl ?_ | refine sL4 hS rfl rfl ?_ | refine sL5 hS rfl rfl ?_ | refine sL6 hS rfl rfl ?_ | refine sL7 hS rfl rfl ?_)) | (refine oS ?_; ((first | refine sS1 hS rfl rfl rfl ?_ | refine sS2 hS rfl rfl rfl ?_ | refine sS3 hS rfl rfl rfl ?_ | refine sS4 hS rfl rfl rfl ?_ | refine sS5 hS rfl rfl rfl ?_); clear hS; intro w hS)) | ((first | refine sN1 hS rfl ?_); clear hS; first | ((fail_if_success guard_hyp g1); intro g1 w hS) | ((fail_if_success guard_hyp g2); intro g2 w hS) | ((fail_if_success guard_hyp g3); intro g3 w hS) | fail) | fail)
        refine dr_start0 []  hS (by kernel_rfl) rfl ?_; clear hS; intro w hS
        refine dP hS 0 rfl rfl ?_
        (try simp only [Act.put, nA, nB, nC])
        first | refine dL1 hS 1 rfl rfl rfl rfl ?_ | refine dL2 hS 1 rfl rfl rfl rfl ?_ | refine dL3 hS 1 rfl rfl rfl ?_ | refine dL4 hS 1 rfl rfl rfl ?_ | refine dL5 hS 1 rfl rfl rfl ?_ | refine dL6 hS 1 rfl rfl rfl ?_ | refine dL7 hS 1 rfl rfl rfl ?_
        (try simp only [Act.put, nA, nB, nC])
        first | refine dP hS 2 rfl rfl ?_; rw [d0] | refine dP hS 2 rfl rfl ?_
        (try simp only [Act.put, nA, nB, nC])
        refine dM hS 3 rfl rfl rfl ?_
        (try simp only [Act.put, nA, nB, nC])
        first | refine dP hS 4 rfl rfl ?_ | refine dQ hS 4 rfl rfl ?_
        (try simp only [Act.put, nA, nB, nC])
        first | refine dL1 hS 5 rfl rfl rfl rfl ?_ | refine dL2 hS 5 rfl rfl rfl rfl ?_ | refine dL3 hS 5 rfl rfl rfl ?_ | refine dL4 hS 5 rfl rfl rfl ?_ | refine dL5 hS 5 rfl rfl rfl ?_ | refine dL6 hS 5 rfl rfl rfl ?_ | refine dL7 hS 5 rfl rfl rfl ?_ | refine dQ hS 5 rfl rfl ?_
        (try simp only [Act.put, nA, nB, nC])
        first | refine dM hS 6 rfl rfl rfl ?_ | refine dQ hS 6 rfl rfl ?_
        (try simp only [Act.put, nA, nB, nC])
        first | refine dP hS 7 rfl rfl ?_ | refine dQ hS 7 rfl rfl ?_
        (try simp only [Act.put, nA, nB, nC])
        first | refine dP hS 8 rfl rfl ?_ | refine dQ hS 8 rfl rfl ?_
        (try simp only [Act.put, nA, nB, nC])
        first | refine dL1 hS 9 rfl rfl rfl rfl ?_ | refine dL2 hS 9 rfl rfl rfl rfl ?_ | refine dL3 hS 9 rfl rfl rfl ?_ | refine dL4 hS 9 rfl rfl rfl ?_ | refine dL5 hS 9 rfl rfl rfl ?_ | refine dL6 hS 9 rfl rfl rfl ?_ | refine dL7 hS 9 rfl rfl rfl ?_ | refine dQ hS 9 rfl rfl ?_
        (try simp only [Act.put, nA, nB, nC])
        first | refine dP hS 10 rfl rfl ?_ | refine dQ hS 10 rfl rfl ?_
        (try simp only [Act.put, nA, nB, nC])
        first | refine dL1 hS 11 rfl rfl rfl rfl ?_ | refine dL2 hS 11 rfl rfl rfl rfl ?_ | refine dL3 hS 11 rfl rfl rfl ?_ | refine dL4 hS 11 rfl rfl rfl ?_ | refine dL5 hS 11 rfl rfl rfl ?_ | refine dL6 hS 11 rfl rfl rfl ?_ | refine dL7 hS 11 rfl rfl rfl ?_ | refine dQ hS 11 rfl rfl ?_
        (try simp only [Act.put, nA, nB, nC])
        first | refine dP hS 12 rfl rfl ?_ | refine dQ hS 12 rfl rfl ?_
        (try simp only [Act.put, nA, nB, nC])
        first | refine dL1 hS 13 rfl rfl rfl rfl ?_ | refine dL2 hS 13 rfl rfl rfl rfl ?_ | refine dL3 hS 13 rfl rfl rfl ?_ | refine dL4 hS 13 rfl rfl rfl ?_ | refine dL5 hS 13 rfl rfl rfl ?_ | refine dL6 hS 13 rfl rfl rfl ?_ | refine dL7 hS 13 rfl rfl rfl ?_ | refine dQ hS 13 rfl rfl ?_
        (try simp only [Act.put, nA, nB, nC])
        first | refine dP hS 14 rfl rfl ?_ | refine dQ hS 14 rfl rfl ?_
        (try simp only [Act.put, nA, nB, nC])
        refine dP hS 15 rfl rfl ?_
        (try simp only [Act.put, nA, nB, nC])
        refine dM hS 16 rfl rfl rfl ?_
        (try simp only [Act.put, nA, nB, nC])
        first | refine dP hS 17 rfl rfl ?_ | refine dQ hS 17 rfl rfl ?_
        (try simp only [Act.put, nA, nB, nC])
        first | refine dL1 hS 18 rfl rfl rfl rfl ?_ | refine dL2 hS 18 rfl rfl rfl rfl ?_ | refine dL3 hS 18 rfl rfl rfl ?_ | refine dL4 hS 18 rfl rfl rfl ?_ | refine dL5 hS 18 rfl rfl rfl ?_ | refine dL6 hS 18 rfl rfl rfl ?_ | refine dL7 hS 18 rfl rfl rfl ?_ | refine dQ hS 18 rfl rfl ?_
        (try simp only [Act.put, nA, nB, nC])
        first | refine dM hS 19 rfl rfl rfl ?_ | refine dQ hS 19 rfl rfl ?_
        (try simp only [Act.put, nA, nB, nC])
        first | refine dP hS 20 rfl rfl ?_ | refine dQ hS 20 rfl rfl ?_
        (try simp only [Act.put, nA, nB, nC])
        first | refine dP hS 21 rfl rfl ?_ | refine dQ hS 21 rfl rfl ?_
        (try simp only [Act.put, nA, nB, nC])
        first | refine dL1 hS 22 rfl rfl rfl rfl ?_ | refine dL2 hS 22 rfl rfl rfl rfl ?_ | refine dL3 hS 22 rfl rfl rfl ?_ | refine dL4 hS 22 rfl rfl rfl ?_ | refine dL5 hS 22 rfl rfl rfl ?_ | refine dL6 hS 22 rfl rfl rfl ?_ | refine dL7 hS 22 rfl rfl rfl ?_ | refine dQ hS 22 rfl rfl ?_
        (try simp only [Act.put, nA, nB, nC])
        first | refine dP hS 23 rfl rfl ?_ | refine dQ hS 23 rfl rfl ?_
        (try simp only [Act.put, nA, nB, nC])
        first | refine dL1 hS 24 rfl rfl rfl rfl ?_ | refine dL2 hS 24 rfl rfl rfl rfl ?_ | refine dL3 hS 24 rfl rfl rfl ?_ | refine dL4 hS 24 rfl rfl rfl ?_ | refine dL5 hS 24 rfl rfl rfl ?_ | refine dL6 hS 24 rfl rfl rfl ?_ | refine dL7 hS 24 rfl rfl rfl ?_ | refine dQ hS 24 rfl rfl ?_
        (try simp only [Act.put, nA, nB, nC])
        first | refine dP hS 25 rfl rfl ?_ | refine dQ hS 25 rfl rfl ?_
        (try simp only [Act.put, nA, nB, nC])
        first | refine dL1 hS 26 rfl rfl rfl rfl ?_ | refine dL2 hS 26 rfl rfl rfl rfl ?_ | refine dL3 hS 26 rfl rfl rfl ?_ | refine dL4 hS 26 rfl rfl rfl ?_ | refine dL5 hS 26 rfl rfl rfl ?_ | refine dL6 hS 26 rfl rfl rfl ?_ | refine dL7 hS 26 rfl rfl rfl ?_ | refine dQ hS 26 rfl rfl ?_
        (try simp only [Act.put, nA, nB, nC])
        first | refine dP hS 27 rfl rfl ?_ | refine dQ hS 27 rfl rfl ?_
        (try simp only [Act.put, nA, nB, nC])
        refine dP hS 28 rfl rfl ?_
        (try simp only [Act.put, nA, nB, nC])
        refine dr_done (by kernel_rfl) ?_
        go_wp2_with (first | (refine oL ?_; (first | refine sL1 hS rfl rfl rfl ?_ | refine sL2 hS rfl rfl rfl ?_ | refine sL3 hS rfl rfl ?_ | refine sL4 hS rfl rfl ?_ | refine sL5 hS rfl rfl ?_ | refine sL6 hS rfl rfl ?_ | refine sL7 hS rfl rfl ?_)) | (refine oS ?_; ((first | refine sS1 hS rfl rfl rfl ?_ | refine sS2 hS rfl rfl rfl ?_ | refine sS3 hS rfl rfl rfl ?_ | refine sS4 hS rfl rfl rfl ?_ | refine sS5 hS rfl rfl rfl ?_); clear hS; intro w hS)) | ((first | refine sN1 hS rfl ?_); clear hS; first | ((fail_if_success guard_hyp g1); intro g1 w hS) | ((fail_if_success guard_hyp g2); intro g2 w hS) | ((fail_if_success guard_hyp g3); intro g3 w hS) | fail) | fail)
        go_roundw
        case measure => simp [intOf]; omega
        exact ⟨j + 1, by omega, by go_num, HT2, hS.re⟩
      · have d0 : (at_ != 0) = true := by simp [h0]
        by_cases k1 : at_ ≤ xt
        · have d1 : decide (at_ ≤ xt) = true := decide_eq_true k1
          by_cases k2 : xf < ix
          · have d2 : decide (xf < ix) = true := decide_eq_true k2
            have HE := Lib.hid (HF.out (HO.out.2 ⟨by omega, k1, k2⟩))
            clear h0 k1 k2
            go_wp2_with (first | (refine oL ?_; (first | refine sL1 hS rfl rfl rfl ?_ | refine sL2 hS rfl rfl rfl ?_ | refine sL3 hS rfl rfl ?_ | refine sL4 hS rfl rfl ?_ | refine sL5 hS rfl rfl ?_ | refine sL6 hS rfl rfl ?_ | refine sL7 hS rfl rfl ?_)) | (refine oS ?_; ((first | refine sS1 hS rfl rfl rfl ?_ | refine sS2 hS rfl rfl rfl ?_ | refine sS3 hS rfl rfl rfl ?_ | refine sS4 hS rfl rfl rfl ?_ | refine sS5 hS rfl rfl rfl ?_); clear hS; intro w hS)) | ((first | refine sN1 hS rfl ?_); clear hS; first | ((fail_if_success guard_hyp g1); intro g1 w hS) | ((fail_if_success guard_hyp g2); intro g2 w hS) | ((fail_if_success guard_hyp g3); intro g3 w hS) | fail) | fail)
            refine dr_start0 []  hS (by kernel_rfl) rfl ?_; clear hS; intro w hS
            refine dP hS 0 rfl rfl ?_
            (try simp only [Act.put, nA, nB, nC])
            first | refine dL1 hS 1 rfl rfl rfl rfl ?_ | refine dL2 hS 1 rfl rfl rfl rfl ?_ | refine dL3 hS 1 rfl rfl rfl ?_ | refine dL4 hS 1 rfl rfl rfl ?_ | refine dL5 hS 1 rfl rfl rfl ?_ | refine dL6 hS 1 rfl rfl rfl ?_ | refine dL7 hS 1 rfl rfl rfl ?_
            (try simp only [Act.put, nA, nB, nC])
            first | refine dP hS 2 rfl rfl ?_; rw [d0] | refine dP hS 2 rfl rfl ?_
            (try simp only [Act.put, nA, nB, nC])
            refine dM hS 3 rfl rfl rfl ?_
            (try simp only [Act.put, nA, nB, nC])
            first | refine dP hS 4 rfl rfl ?_ | refine dQ hS 4 rfl rfl ?_
            (try simp only [Act.put, nA, nB, nC])
            first | refine dL1 hS 5 rfl rfl rfl rfl ?_ | refine dL2 hS 5 rfl rfl rfl rfl ?_ | refine dL3 hS 5 rfl rfl rfl ?_ | refine dL4 hS 5 rfl rfl rfl ?_ | refine dL5 hS 5 rfl rfl rfl ?_ | refine dL6 hS 5 rfl rfl rfl ?_ | refine dL7 hS 5 rfl rfl rfl ?_ | refine dQ hS 5 rfl rfl ?_
            (try simp only [Act.put, nA, nB, nC])
            first | refine dM hS 6 rfl rfl rfl ?_ | refine dQ hS 6 rfl rfl ?_
            (try simp only [Act.put, nA, nB, nC])
            first | refine dP hS 7 rfl rfl ?_ | refine dQ hS 7 rfl rfl ?_
            (try simp only [Act.put, nA, nB, nC])
            first | refine dP hS 8 rfl rfl ?_ | refine dQ hS 8 rfl rfl ?_
            (try simp only [Act.put, nA, nB, nC])
            first | refine dL1 hS 9 rfl rfl rfl rfl ?_ | refine dL2 hS 9 rfl rfl rfl rfl ?_ | refine dL3 hS 9 rfl rfl rfl ?_ | refine dL4 hS 9 rfl rfl rfl ?_ | refine dL5 hS 9 rfl rfl rfl ?_ | refine dL6 hS 9 rfl rfl rfl ?_ | refine dL7 hS 9 rfl rfl rfl ?_ | refine dQ hS 9 rfl rfl ?_
            (try simp only [Act.put, nA, nB, nC])
            first | refine dP hS 10 rfl rfl ?_ | refine dQ hS 10 rfl rfl ?_
            (try simp only [Act.put, nA, nB, nC])
            first | refine dL1 hS 11 rfl rfl rfl rfl ?_ | refine dL2 hS 11 rfl rfl rfl rfl ?_ | refine dL3 hS 11 rfl rfl rfl ?_ | refine dL4 hS 11 rfl rfl rfl ?_ | refine dL5 hS 11 rfl rfl rfl ?_ | refine dL6 hS 11 rfl rfl rfl ?_ | refine dL7 hS 11 rfl rfl rfl ?_ | refine dQ hS 11 rfl rfl ?_
            (try simp only [Act.put, nA, nB, nC])
            first | refine dP hS 12 rfl rfl ?_ | refine dQ hS 12 rfl rfl ?_
            (try simp only [Act.put, nA, nB, nC])
            first | refine dL1 hS 13 rfl rfl rfl rfl ?_ | refine dL2 hS 13 rfl rfl rfl rfl ?_ | refine dL3 hS 13 rfl rfl rfl ?_ | refine dL4 hS 13 rfl rfl rfl ?_ | refine dL5 hS 13 rfl rfl rfl ?_ | refine dL6 hS 13 rfl rfl rfl ?_ | refine dL7 hS 13 rfl rfl rfl ?_ | refine dQ hS 13 rfl rfl ?_
            (try simp only [Act.put, nA, nB, nC])
            first | refine dP hS 14 rfl rfl ?_; rw [d1] | refine dP hS 14 rfl rfl ?_ | refine dQ hS 14 rfl rfl ?_
            (try simp only [Act.put, nA, nB, nC])
            refine dP hS 15 rfl rfl ?_
            (try simp only [Act.put, nA, nB, nC])
            refine dM hS 16 rfl rfl rfl ?_
            (try simp only [Act.put, nA, nB, nC])
            first | refine dP hS 17 rfl rfl ?_ | refine dQ hS 17 rfl rfl ?_
            (try simp only [Act.put, nA, nB, nC])
            first | refine dL1 hS 18 rfl rfl rfl rfl ?_ | refine dL2 hS 18 rfl rfl rfl rfl ?_ | refine dL3 hS 18 rfl rfl rfl ?_ | refine dL4 hS 18 rfl rfl rfl ?_ | refine dL5 hS 18 rfl rfl rfl ?_ | refine dL6 hS 18 rfl rfl rfl ?_ | refine dL7 hS 18 rfl rfl rfl ?_ | refine dQ hS 18 rfl rfl ?_
            (try simp only [Act.put, nA, nB, nC])
            first | refine dM hS 19 rfl rfl rfl ?_ | refine dQ hS 19 rfl rfl ?_
            (try simp only [Act.put, nA, nB, nC])
            first | refine dP hS 20 rfl rfl ?_ | refine dQ hS 20 rfl rfl ?_
            (try simp only [Act.put, nA, nB, nC])
            first | refine dP hS 21 rfl rfl ?_ | refine dQ hS 21 rfl rfl ?_
            (try simp only [Act.put, nA, nB, nC])
            first | refine dL1 hS 22 rfl rfl rfl rfl ?_ | refine dL2 hS 22 rfl rfl rfl rfl ?_ | refine dL3 hS 22 rfl rfl rfl ?_ | refine dL4 hS 22 rfl rfl rfl ?_ | refine dL5 hS 22 rfl rfl rfl ?_ | refine dL6 hS 22 rfl rfl rfl ?_ | refine dL7 hS 22 rfl rfl rfl ?_ | refine dQ hS 22 rfl rfl ?_
            (try simp only [Act.put, nA, nB, nC])
            first | refine dP hS 23 rfl rfl ?_ | refine dQ hS 23 rfl rfl ?_
            (try simp only [Act.put, nA, nB, nC])
            first | refine dL1 hS 24 rfl rfl rfl rfl ?_ | refine dL2 hS 24 rfl rfl rfl rfl ?_ | refine dL3 hS 24 rfl rfl rfl ?_ | refine dL4 hS 24 rfl rfl rfl ?_ | refine dL5 hS 24 rfl rfl rfl ?_ | refine dL6 hS 24 rfl rfl rfl ?_ | refine dL7 hS 24 rfl rfl rfl ?_ | refine dQ hS 24 rfl rfl ?_
            (try simp only [Act.put, nA, nB, nC])
            first | refine dP hS 25 rfl rfl ?_ | refine dQ hS 25 rfl rfl ?_
            (try simp only [Act.put, nA, nB, nC])
            first | refine dL1 hS 26 rfl rfl rfl rfl ?_ | refine dL2 hS 26 rfl rfl rfl rfl ?_ | refine dL3 hS 26 rfl rfl rfl ?_ | refine dL4 hS 26 rfl rfl rfl ?_ | refine dL5 hS 26 rfl rfl rfl ?_ | refine dL6 hS 26 rfl rfl rfl ?_ | refine dL7 hS 26 rfl rfl rfl ?_ | refine dQ hS 26 rfl rfl ?_
            (try simp only [Act.put, nA, nB, nC])
            first | refine dP hS 27 rfl rfl ?_; rw [d2] | refine dP hS 27 rfl rfl ?_ | refine dQ hS 27 rfl rfl ?_
            (try simp only [Act.put, nA, nB, nC])
            refine dP hS 28 rfl rfl ?_
            (try simp only [Act.put, nA, nB, nC])
            refine dr_done (by kernel_rfl) ?_
            go_wp2_with (first | (refine oL ?_; (first | refine sL1 hS rfl rfl rfl ?_ | refine sL2 hS rfl rfl rfl ?_ | refine sL3 hS rfl rfl ?_ | refine sL4 hS rfl rfl ?_ | refine sL5 hS rfl rfl ?_ | refine sL6 hS rfl rfl ?_ | refine sL7 hS rfl rfl ?_)) | (refine oS ?_; ((first | refine sS1 hS rfl rfl rfl ?_ | refine sS2 hS rfl rfl rfl ?_ | refine sS3 hS rfl rfl rfl ?_ | refine sS4 hS rfl rfl rfl ?_ | refine sS5 hS rfl rfl rfl ?_); clear hS; intro w hS)) | ((first | refine sN1 hS rfl ?_); clear hS; first | ((fail_if_success guard_hyp g1); intro g1 w hS) | ((fail_if_success guard_hyp g2); intro g2 w hS) | ((fail_if_success guard_hyp g3); intro g3 w hS) | fail) | fail)
            refine st_retCT hS rfl rfl rfl rfl rfl ?_
            rw [HE.out]
            exact ⟨rfl, hS.re⟩
          · have d2 : decide (xf < ix) = false := decide_eq_false k2
            have HT2 := Lib.hid (HT.out false (by rw [← Bool.not_eq_true]; intro h; exact k2 (HO.out.1 h).2.2) rfl)
            clear h0 k1 k2
            go_wp2_with (first | (refine oL ?_; (first | refine sL1 hS rfl rfl rfl ?_ | refine sL2 hS rfl rfl rfl ?_ | refine sL3 hS rfl rfl ?_ | refine sL4 hS rfl rfl ?_ | refine sL5 hS rfl rfl ?_ | refine sL6 hS rfl rfl ?_ | refine sL7 hS rfl rfl ?_)) | (refine oS ?_; ((first | refine sS1 hS rfl rfl rfl ?_ | refine sS2 hS rfl rfl rfl ?_ | refine sS3 hS rfl rfl rfl ?_ | refine sS4 hS rfl rfl rfl ?_ | refine sS5 hS rfl rfl rfl ?_); clear hS; intro w hS)) | ((first | refine sN1 hS rfl ?_); clear hS; first | ((fail_if_success guard_hyp g1); intro g1 w hS) | ((fail_if_success guard_hyp g2); intro g2 w hS) | ((fail_if_success guard_hyp g3); intro g3 w hS) | fail) | fail)
            refine dr_start0 []  hS (by kernel_rfl) rfl ?_; clear hS; intro w hS
            refine dP hS 0 rfl rfl ?_
            (try simp only [Act.put, nA, nB, nC])
            first | refine dL1 hS 1 rfl rfl rfl rfl ?_ | refine dL2 hS 1 rfl rfl rfl rfl ?_ | refine dL3 hS 1 rfl rfl rfl ?_ | refine dL4 hS 1 rfl rfl rfl ?_ | refine dL5 hS 1 rfl rfl rfl ?_ | refine dL6 hS 1 rfl rfl rfl ?_ | refine dL7 hS 1 rfl rfl rfl ?_
            (try simp only [Act.put, nA, nB, nC])
            first | refine dP hS 2 rfl rfl ?_; rw [d0] | refine dP hS 2 rfl rfl ?_
            (try simp only [Act.put, nA, nB, nC])
            refine dM hS 3 rfl rfl rfl ?_
            (try simp only [Act.put, nA, nB, nC])
            first | refine dP hS 4 rfl rfl ?_ | refine dQ hS 4 rfl rfl ?_
            (try simp only [Act.put, nA, nB, nC])
            first | refine dL1 hS 5 rfl rfl rfl rfl ?_ | refine dL2 hS 5 rfl rfl rfl rfl ?_ | refine dL3 hS 5 rfl rfl rfl ?_ | refine dL4 hS 5 rfl rfl rfl ?_ | refine dL5 hS 5 rfl rfl rfl ?_ | refine dL6 hS 5 rfl rfl rfl ?_ | refine dL7 hS 5 rfl rfl rfl ?_ | refine dQ hS 5 rfl rfl ?_
            (try simp only [Act.put, nA, nB, nC])
            first | refine dM hS 6 rfl rfl rfl ?_ | refine dQ hS 6 rfl rfl ?_
            (try simp only [Act.put, nA, nB, nC])
            first | refine dP hS 7 rfl rfl ?_ | refine dQ hS 7 rfl rfl ?_
            (try simp only [Act.put, nA, nB, nC])
            first | refine dP hS 8 rfl rfl ?_ | refine dQ hS 8 rfl rfl ?_
            (try simp only [Act.put, nA, nB, nC])
            first | refine dL1 hS 9 rfl rfl rfl rfl ?_ | refine dL2 hS 9 rfl rfl rfl rfl ?_ | refine dL3 hS 9 rfl rfl rfl ?_ | refine dL4 hS 9 rfl rfl rfl ?_ | refine dL5 hS 9 rfl rfl rfl ?_ | refine dL6 hS 9 rfl rfl rfl ?_ | refine dL7 hS 9 rfl rfl rfl ?_ | refine dQ hS 9 rfl rfl ?_
            (try simp only [Act.put, nA, nB, nC])
            first | refine dP hS 10 rfl rfl ?_ | refine dQ hS 10 rfl rfl ?_
            (try simp only [Act.put, nA, nB, nC])
            first | refine dL1 hS 11 rfl rfl rfl rfl ?_ | refine dL2 hS 11 rfl rfl rfl rfl ?_ | refine dL3 hS 11 rfl rfl rfl ?_ | refine dL4 hS 11 rfl rfl rfl ?_ | refine dL5 hS 11 rfl rfl rfl ?_ | refine dL6 hS 11 rfl rfl rfl ?_ | refine dL7 hS 11 rfl rfl rfl ?_ | refine dQ hS 11 rfl rfl ?_
            (try simp only [Act.put, nA, nB, nC])
            first | refine dP hS 12 rfl rfl ?_ | refine dQ hS 12 rfl rfl ?_
            (try simp only [Act.put, nA, nB, nC])
            first | refine dL1 hS 13 rfl rfl rfl rfl ?_ | refine dL2 hS 13 rfl rfl rfl rfl ?_ | refine dL3 hS 13 rfl rfl rfl ?_ | refine dL4 hS 13 rfl rfl rfl ?_ | refine dL5 hS 13 rfl rfl rfl ?_ | refine dL6 hS 13 rfl rfl rfl ?_ | refine dL7 hS 13 rfl rfl rfl ?_ | refine dQ hS 13 rfl rfl ?_
            (try simp only [Act.put, nA, nB, nC])
            first | refine dP hS 14 rfl rfl ?_; rw [d1] | refine dP hS 14 rfl rfl ?_ | refine dQ hS 14 rfl rfl ?_
            (try simp only [Act.put, nA, nB, nC])
            refine dP hS 15 rfl rfl ?_
            (try simp only [Act.put, nA, nB, nC])
            refine dM hS 16 rfl rfl rfl ?_
            (try simp only [Act.put, nA, nB, nC])
            first | refine dP hS 17 rfl rfl ?_ | refine dQ hS 17 rfl rfl ?_
            (try simp only [Act.put, nA, nB, nC])
            first | refine dL1 hS 18 rfl rfl rfl rfl ?_ | refine dL2 hS 18 rfl rfl rfl rfl ?_ | refine dL3 hS 18 rfl rfl rfl ?_ | refine dL4 hS 18 rfl rfl rfl ?_ | refine dL5 hS 18 rfl rfl rfl ?_ | refine dL6 hS 18 rfl rfl rfl ?_ | refine dL7 hS 18 rfl rfl rfl ?_ | refine dQ hS 18 rfl rfl ?_
            (try simp only [Act.put, nA, nB, nC])
            first | refine dM hS 19 rfl rfl rfl ?_ | refine dQ hS 19 rfl rfl ?_
            (try simp only [Act.put, nA, nB, nC])
            first | refine dP hS 20 rfl rfl ?_ | refine dQ hS 20 rfl rfl ?_
            (try simp only [Act.put, nA, nB, nC])
            first | refine dP hS 21 rfl rfl ?_ | refine dQ hS 21 rfl rfl ?_
            (try simp only [Act.put, nA, nB, nC])
            first | refine dL1 hS 22 rfl rfl rfl rfl ?_ | refine dL2 hS 22 rfl rfl rfl rfl ?_ | refine dL3 hS 22 rfl rfl rfl ?_ | refine dL4 hS 22 rfl rfl rfl ?_ | refine dL5 hS 22 rfl rfl rfl ?_ | refine dL6 hS 22 rfl rfl rfl ?_ | refine dL7 hS 22 rfl rfl rfl ?_ | refine dQ hS 22 rfl rfl ?_
            (try simp only [Act.put, nA, nB, nC])
            first | refine dP hS 23 rfl rfl ?_ | refine dQ hS 23 rfl rfl ?_
            (try simp only [Act.put, nA, nB, nC])
            first | refine dL1 hS 24 rfl rfl rfl rfl ?_ | refine dL2 hS 24 rfl rfl rfl rfl ?_ | refine dL3 hS 24 rfl rfl rfl ?_ | refine dL4 hS 24 rfl rfl rfl ?_ | refine dL5 hS 24 rfl rfl rfl ?_ | refine dL6 hS 24 rfl rfl rfl ?_ | refine dL7 hS 24 rfl rfl rfl ?_ | refine dQ hS 24 rfl rfl ?_
            (try simp only [Act.put, nA, nB, nC])
            first | refine dP hS 25 rfl rfl ?_ | refine dQ hS 25 rfl rfl ?_
            (try simp only [Act.put, nA, nB, nC])
            first | refine dL1 hS 26 rfl rfl rfl rfl ?_ | refine dL2 hS 26 rfl rfl rfl rfl ?_ | refine dL3 hS 26 rfl rfl rfl ?_ | refine dL4 hS 26 rfl rfl rfl ?_ | refine dL5 hS 26 rfl rfl rfl ?_ | refine dL6 hS 26 rfl rfl rfl ?_ | refine dL7 hS 26 rfl rfl rfl ?_ | refine dQ hS 26 rfl rfl ?_
            (try simp only [Act.put, nA, nB, nC])
            first | refine dP hS 27 rfl rfl ?_; rw [d2] | refine dP hS 27 rfl rfl ?_ | refine dQ hS 27 rfl rfl ?_
            (try simp only [Act.put, nA, nB, nC])
            refine dP hS 28 rfl rfl ?_
            (try simp only [Act.put, nA, nB, nC])
            refine dr_done (by kernel_rfl) ?_
            go_wp2_with (first | (refine oL ?_; (first | refine sL1 hS rfl rfl rfl ?_ | refine sL2 hS rfl rfl rfl ?_ | refine sL3 hS rfl rfl ?_ | refine sL4 hS rfl rfl ?_ | refine sL5 hS rfl rfl ?_ | refine sL6 hS rfl rfl ?_ | refine sL7 hS rfl rfl ?_)) | (refine oS ?_; ((first | refine sS1 hS rfl rfl rfl ?_ | refine sS2 hS rfl rfl rfl ?_ | refine sS3 hS rfl rfl rfl ?_ | refine sS4 hS rfl rfl rfl ?_ | refine sS5 hS rfl rfl rfl ?_); clear hS; intro w hS)) | ((first | refine sN1 hS rfl ?_); clear hS; first | ((fail_if_success guard_hyp g1); intro g1 w hS) | ((fail_if_success guard_hyp g2); intro g2 w hS) | ((fail_if_success guard_hyp g3); intro g3 w hS) | fail) | fail)
            go_roundw
            case measure => simp [intOf]; omega
            exact ⟨j + 1, by omega, by go_num, HT2, hS.re⟩
        · have d1 : decide (at_ ≤ xt) = false := decide_eq_false k1
          have HT2 := Lib.hid (HT.out false (by rw [← Bool.not_eq_true]; intro h; exact k1 (HO.out.1 h).2.1) rfl)
          clear h0 k1
          go_wp2_with (first | (refine oL ?_; (first | refine sL1 hS rfl rfl rfl ?_ | refine sL2 hS rfl rfl rfl ?_ | refine sL3 hS rfl rfl ?_ | refine sL4 hS rfl rfl ?_ | refine sL5 hS rfl rfl ?_ | refine sL6 hS rfl rfl ?_ | refine sL7 hS rfl rfl ?_)) | (refine oS ?_; ((first | refine sS1 hS rfl rfl rfl ?_ | refine sS2 hS rfl rfl rfl ?_ | refine sS3 hS rfl rfl rfl ?_ | refine sS4 hS rfl rfl rfl ?_ | refine sS5 hS rfl rfl rfl ?_); clear hS; intro w hS)) | ((first | refine sN1 hS rfl ?_); clear hS; first | ((fail_if_success guard_hyp g1); intro g1 w hS) | ((fail_if_success guard_hyp g2); intro g2 w hS) | ((fail_if_success guard_hyp g3); intro g3 w hS) | fail) | fail)
          refine dr_start0 []  hS (by kernel_rfl) rfl ?_; clear hS; intro w hS
          refine dP hS 0 rfl rfl ?_
          (try simp only [Act.put, nA, nB, nC])
          first | refine dL1 hS 1 rfl rfl rfl rfl ?_ | refine dL2 hS 1 rfl rfl rfl rfl ?_ | refine dL3 hS 1 rfl rfl rfl ?_ | refine dL4 hS 1 rfl rfl rfl ?_ | refine dL5 hS 1 rfl rfl rfl ?_ | refine dL6 hS 1 rfl rfl rfl ?_ | refine dL7 hS 1 rfl rfl rfl ?_
          (try simp only [Act.put, nA, nB, nC])
          first | refine dP hS 2 rfl rfl ?_; rw [d0] | refine dP hS 2 rfl rfl ?_
          (try simp only [Act.put, nA, nB, nC])
          refine dM hS 3 rfl rfl rfl ?_
          (try simp only [Act.put, nA, nB, nC])
          first | refine dP hS 4 rfl rfl ?_ | refine dQ hS 4 rfl rfl ?_
          (try simp only [Act.put, nA, nB, nC])
          first | refine dL1 hS 5 rfl rfl rfl rfl ?_ | refine dL2 hS 5 rfl rfl rfl rfl ?_ | refine dL3 hS 5 rfl rfl rfl ?_ | refine dL4 hS 5 rfl rfl rfl ?_ | refine dL5 hS 5 rfl rfl rfl ?_ | refine dL6 hS 5 rfl rfl rfl ?_ | refine dL7 hS 5 rfl rfl rfl ?_ | refine dQ hS 5 rfl rfl ?_
          (try simp only [Act.put, nA, nB, nC])
          first | refine dM hS 6 rfl rfl rfl ?_ | refine dQ hS 6 rfl rfl ?_
          (try simp only [Act.put, nA, nB, nC])
          first | refine dP hS 7 rfl rfl ?_ | refine dQ hS 7 rfl rfl ?_
          (try simp only [Act.put, nA, nB, nC])
          first | refine dP hS 8 rfl rfl ?_ | refine dQ hS 8 rfl rfl ?_
          (try simp only [Act.put, nA, nB, nC])
          first | refine dL1 hS 9 rfl rfl rfl rfl ?_ | refine dL2 hS 9 rfl rfl rfl rfl ?_ | refine dL3 hS 9 rfl rfl rfl ?_ | refine dL4 hS 9 rfl rfl rfl ?_ | refine dL5 hS 9 rfl rfl rfl ?_ | refine dL6 hS 9 rfl rfl rfl ?_ | refine dL7 hS 9 rfl rfl rfl ?_ | refine dQ hS 9 rfl rfl ?_
          (try simp only [Act.put, nA, nB, nC])
          first | refine dP hS 10 rfl rfl ?_ | refine dQ hS 10 rfl rfl ?_
          (try simp only [Act.put, nA, nB, nC])
          first | refine dL1 hS 11 rfl rfl rfl rfl ?_ | refine dL2 hS 11 rfl rfl rfl rfl ?_ | refine dL3 hS 11 rfl rfl rfl ?_ | refine dL4 hS 11 rfl rfl rfl ?_ | refine dL5 hS 11 rfl rfl rfl ?_ | refine dL6 hS 11 rfl rfl rfl ?_ | refine dL7 hS 11 rfl rfl rfl ?_ | refine dQ hS 11 rfl rfl ?_
          (try simp only [Act.put, nA, nB, nC])
          first | refine dP hS 12 rfl rfl ?_ | refine dQ hS 12 rfl rfl ?_
          (try simp only [Act.put, nA, nB, nC])
          first | refine dL1 hS 13 rfl rfl rfl rfl ?_ | refine dL2 hS 13 rfl rfl rfl rfl ?_ | refine dL3 hS 13 rfl rfl rfl ?_ | refine dL4 hS 13 rfl rfl rfl ?_ | refine dL5 hS 13 rfl rfl rfl ?_ | refine dL6 hS 13 rfl rfl rfl ?_ | refine dL7 hS 13 rfl rfl rfl ?_ | refine dQ hS 13 rfl rfl ?_
          (try simp only [Act.put, nA, nB, nC])
          first | refine dP hS 14 rfl rfl ?_; rw [d1] | refine dP hS 14 rfl rfl ?_ | refine dQ hS 14 rfl rfl ?_
          (try simp only [Act.put, nA, nB, nC])
          refine dP hS 15 rfl rfl ?_
          (try simp only [Act.put, nA, nB, nC])
          refine dM hS 16 rfl rfl rfl ?_
          (try simp only [Act.put, nA, nB, nC])
          first | refine dP hS 17 rfl rfl ?_ | refine dQ hS 17 rfl rfl ?_
          (try simp only [Act.put, nA, nB, nC])
          first | refine dL1 hS 18 rfl rfl rfl rfl ?_ | refine dL2 hS 18 rfl rfl rfl rfl ?_ | refine dL3 hS 18 rfl rfl rfl ?_ | refine dL4 hS 18 rfl rfl rfl ?_ | refine dL5 hS 18 rfl rfl rfl ?_ | refine dL6 hS 18 rfl rfl rfl ?_ | refine dL7 hS 18 rfl rfl rfl ?_ | refine dQ hS 18 rfl rfl ?_
          (try simp only [Act.put, nA, nB, nC])
          first | refine dM hS 19 rfl rfl rfl ?_ | refine dQ hS 19 rfl rfl ?_
          (try simp only [Act.put, nA, nB, nC])
          first | refine dP hS 20 rfl rfl ?_ | refine dQ hS 20 rfl rfl ?_
          (try simp only [Act.put, nA, nB, nC])
          first | refine dP hS 21 rfl rfl ?_ | refine dQ hS 21 rfl rfl ?_
          (try simp only [Act.put, nA, nB, nC])
          first | refine dL1 hS 22 rfl rfl rfl rfl ?_ | refine dL2 hS 22 rfl rfl rfl rfl ?_ | refine dL3 hS 22 rfl rfl rfl ?_ | refine dL4 hS 22 rfl rfl rfl ?_ | refine dL5 hS 22 rfl rfl rfl ?_ | refine dL6 hS 22 rfl rfl rfl ?_ | refine dL7 hS 22 rfl rfl rfl ?_ | refine dQ hS 22 rfl rfl ?_
          (try simp only [Act.put, nA, nB, nC])
          first | refine dP hS 23 rfl rfl ?_ | refine dQ hS 23 rfl rfl ?_
          (try simp only [Act.put, nA, nB, nC])
          first | refine dL1 hS 24 rfl rfl rfl rfl ?_ | refine dL2 hS 24 rfl rfl rfl rfl ?_ | refine dL3 hS 24 rfl rfl rfl ?_ | refine dL4 hS 24 rfl rfl rfl ?_ | refine dL5 hS 24 rfl rfl rfl ?_ | refine dL6 hS 24 rfl rfl rfl ?_ | refine dL7 hS 24 rfl rfl rfl ?_ | refine dQ hS 24 rfl rfl ?_
          (try simp only [Act.put, nA, nB, nC])
          first | refine dP hS 25 rfl rfl ?_ | refine dQ hS 25 rfl rfl ?_
          (try simp only [Act.put, nA, nB, nC])
          first | refine dL1 hS 26 rfl rfl rfl rfl ?_ | refine dL2 hS 26 rfl rfl rfl rfl ?_ | refine dL3 hS 26 rfl rfl rfl ?_ | refine dL4 hS 26 rfl rfl rfl ?_ | refine dL5 hS 26 rfl rfl rfl ?_ | refine dL6 hS 26 rfl rfl rfl ?_ | refine dL7 hS 26 rfl rfl rfl ?_ | refine dQ hS 26 rfl rfl ?_
          (try simp only [Act.put, nA, nB, nC])
          first | refine dP hS 27 rfl rfl ?_ | refine dQ hS 27 rfl rfl ?_
          (try simp only [Act.put, nA, nB, nC])
          refine dP hS 28 rfl rfl ?_
          (try simp only [Act.put, nA, nB, nC])
          refine dr_done (by kernel_rfl) ?_
          go_wp2_with (first | (refine oL ?_; (first | refine sL1 hS rfl rfl rfl ?_ | refine sL2 hS rfl rfl rfl ?_ | refine sL3 hS rfl rfl ?_ | refine sL4 hS rfl rfl ?_ | refine sL5 hS rfl rfl ?_ | refine sL6 hS rfl rfl ?_ | refine sL7 hS rfl rfl ?_)) | (refine oS ?_; ((first | refine sS1 hS rfl rfl rfl ?_ | refine sS2 hS rfl rfl rfl ?_ | refine sS3 hS rfl rfl rfl ?_ | refine sS4 hS rfl rfl rfl ?_ | refine sS5 hS rfl rfl rfl ?_); clear hS; intro w hS)) | ((first | refine sN1 hS rfl ?_); clear hS; first | ((fail_if_success guard_hyp g1); intro g1 w hS) | ((fail_if_success guard_hyp g2); intro g2 w hS) | ((fail_if_success guard_hyp g3); intro g3 w hS) | fail) | fail)
          go_roundw
          case measure => simp [intOf]; omega
          exact ⟨j + 1, by omega, by go_num, HT2, hS.re⟩
    · have hjl' : ¬ (j : Int) < az.length := by omega
      have HE := Lib.hid (show r = none by
        rw [← HR.out, List.find?_eq_none]
        intro a ha
        have h9 : az.take j = az := List.take_of_length_le (by omega)
        rw [HN.out a (by rw [h9]; exact ha)]; simp)
      go_wp2_with (first | (refine oL ?_; (first | refine sL1 hS rfl rfl rfl ?_ | refine sL2 hS rfl rfl rfl ?_ | refine sL3 hS rfl rfl ?_ | refine sL4 hS rfl rfl ?_ | refine sL5 hS rfl rfl ?_ | refine sL6 hS rfl rfl ?_ | refine sL7 hS rfl rfl ?_)) | (refine oS ?_; ((first | refine sS1 hS rfl rfl rfl ?_ | refine sS2 hS rfl rfl rfl ?_ | refine sS3 hS rfl rfl rfl ?_ | refine sS4 hS rfl rfl rfl ?_ | refine sS5 hS rfl rfl rfl ?_); clear hS; intro w hS)) | ((first | refine sN1 hS rfl ?_); clear hS; first | ((fail_if_success guard_hyp g1); intro g1 w hS) | ((fail_if_success guard_hyp g2); intro g2 w hS) | ((fail_if_success guard_hyp g3); intro g3 w hS) | fail) | fail)
      refine st_retCT hS rfl rfl rfl rfl rfl ?_
      rw [HE.out]
      exact ⟨rfl, hS.re⟩
end Go.Proofs.Ytombhhhaidmpeaa
