/- (*Codes).Int: a number. Conditions: the list has at most a thousand choices. -/
import Derived.Test.YtmjmdncdmmcmaaaCodes
namespace Go.Proofs.Ytmjmdncdmmcmaaa
open Go.RowKit
set_option linter.unusedVariables false

/-- the numbers that Int may return -/
def greats : List Int := [9223372036854775807, -9223372036854775808, 2147483648, -1, 63, 64, -65, 127, 128, 1099511627776]
/-- Int: a number, and the choices that are left -/
def intV (r : List Int) : Int := if nxt r 6 = 5 then greats.getD (nxt r.tail 10) 0 else (nxt r.tail 12 : Int) - 2
set_option maxHeartbeats 800000 in
theorem int_any (g : Nat) (r : List Int) (w : World) (h : Codes w g r) :
    Calls Try.prog 47 #[.pointer (some ⟨g, 0, none⟩)] w fun e w' => e = .returned (.int .i64 (intV r)) ∧ Codes w' g r.tail.tail ∧ Keep (fun k => k ≠ g) w w' := by
  have hl := h.lt
  have hx0 := (Ext.refl' w).alloc' (.cells (ints greats).toArray 3)
  have hr0 := RV.new w (ints greats) 3
  have hc0 := h.ext hx0
  have hs0 : (w.alloc (.cells (ints greats).toArray 3)).heap.size = w.heap.size + 1 := by simp
  have HX := Lib.hid hx0
  have HR := Lib.hid hr0
  have HS := Lib.hid hs0
  clear hx0 hr0 h hs0
  have hn6 := nxt_lt r (n := 6) (by omega)
  have hn10 := nxt_lt r.tail (n := 10) (by omega)
  have hn12 := nxt_lt r.tail (n := 12) (by omega)
  have hint : intV r = if nxt r 6 = 5 then greats.getD (nxt r.tail 10) 0 else (nxt r.tail 12 : Int) - 2 := rfl
  have HI := Lib.hid hint
  clear hint
  go_enter Try.func47, Try.ntmps47
  go_wp2_with fail
  refine (next_any g r 6 (w.alloc (.cells (ints greats).toArray 3)) hc0 (by omega) (by omega)).mono ?_
  rintro e w1 ⟨rfl, hc1, hk1, hs1⟩
  have hr1 : RV (fun k => k = w.heap.size) w1 (some ⟨w.heap.size, 0, none⟩) (ints greats) := HR.out.keep (hk1.mono (fun k e => by omega))
  have hk0 : Keep (fun k => k ≠ g) w w1 := (Keep.ofExt HX.out).trans hk1
  clear HX HR hk1 HS hs1 hc0
  by_cases h5 : nxt r 6 = 5
  · have h5' : ((nxt r 6 : Int) == 5) = true := by simp [h5]
    have hi := HI.out
    rw [if_pos h5] at hi
    have HI' := Lib.hid hi
    clear hi HI h5 hn12
    go_wp2_with fail
    refine (next_any g r.tail 10 w1 hc1 (by omega) (by omega)).mono ?_
    rintro e w2 ⟨rfl, hc2, hk2, hs2⟩
    have hr2 := hr1.keep (hk2.mono (fun k e => by omega))
    have hk := hk0.trans hk2
    obtain ⟨b, o, e1, _, hcell⟩ := hr2 (nxt r.tail 10) (.int .i64 (greats.getD (nxt r.tail 10) 0)) (by
      rw [List.getElem?_map, List.getD_eq_getElem?_getD, List.getElem?_eq_getElem (by simpa [greats] using hn10)]; rfl)
    injection e1 with e1
    injection e1 with e1 e2
    subst e1; subst e2
    rw [Nat.zero_add] at hcell
    generalize greats.getD (nxt r.tail 10) 0 = y at *
    clear hr2 hr1 hk2 hk0 hc1
    go_wp2
    go_ret
    exact ⟨ret_int HI'.out.symm, hc2, hk⟩
  · have h5' : ((nxt r 6 : Int) == 5) = false := beq_eq_false_iff_ne.2 (by omega)
    have hi := HI.out
    rw [if_neg h5] at hi
    have HI' := Lib.hid hi
    clear hi HI h5 hr1
    go_wp2_with fail
    refine (next_any g r.tail 12 w1 hc1 (by omega) (by omega)).mono ?_
    rintro e w2 ⟨rfl, hc2, hk2, hs2⟩
    have hk := hk0.trans hk2
    go_wp2
    go_ret
    exact ⟨ret_int HI'.out.symm, hc2, hk⟩
end Go.Proofs.Ytmjmdncdmmcmaaa
