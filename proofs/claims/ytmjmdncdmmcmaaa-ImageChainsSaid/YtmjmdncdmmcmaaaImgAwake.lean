/- awake (rollbacknetlaw07) returns true. No condition. -/
import Derived.Test.YtmjmdncdmmcmaaaImgB
namespace Go.Proofs.Ytmjmdncdmmcmaaa
open Go.RowKit
set_option linter.unusedVariables false

theorem diff_awake : diffL [1, 2, 3, 4, 5] [1, 2, 3, 4, 6] = [((1 : Int), [6])] := by decide
set_option maxHeartbeats 1600000 in
theorem awake_any (w : World) : Calls Try.prog 11 #[] w fun e w' => e = .returned (.bool true) ∧ Ext w w' := by
  have hx0 := ((Ext.refl' w).alloc' (Obj.cells #[.int .i64 1, .int .i64 2, .int .i64 3, .int .i64 4, .int .i64 5] 3)).alloc' (Obj.cells #[.int .i64 1, .int .i64 2, .int .i64 3, .int .i64 4, .int .i64 6] 3)
  have hx1 : RI All ((w.alloc (Obj.cells #[.int .i64 1, .int .i64 2, .int .i64 3, .int .i64 4, .int .i64 5] 3)).alloc (Obj.cells #[.int .i64 1, .int .i64 2, .int .i64 3, .int .i64 4, .int .i64 6] 3)) (some ⟨w.heap.size, 0, none⟩) [1, 2, 3, 4, 5] :=
    ((RV.new w (ints [1, 2, 3, 4, 5]) 3).sub (fun _ _ => trivial)).ext ((Ext.refl' _).alloc' _)
  have hx2 : RI All ((w.alloc (Obj.cells #[.int .i64 1, .int .i64 2, .int .i64 3, .int .i64 4, .int .i64 5] 3)).alloc (Obj.cells #[.int .i64 1, .int .i64 2, .int .i64 3, .int .i64 4, .int .i64 6] 3)) (some ⟨w.heap.size + 1, 0, none⟩) [1, 2, 3, 4, 6] :=
    RV.new' _ (ints [1, 2, 3, 4, 6]) _ _ (by simp) trivial
  go_enter Try.func11, Try.ntmps11
  go_wp2_with fail
  refine (diff_any (S := All) _ _ _ _ [1, 2, 3, 4, 5] [1, 2, 3, 4, 6] _ (fun _ _ => trivial) hx1 hx2 (by decide) (by decide) (by decide) (by decide) (by decide) (by decide)).mono ?_
  rw [diff_awake]
  rintro e w' ⟨⟨L, c, rfl, hp, h1, h2⟩, hext⟩
  obtain ⟨b, o, B, d, rfl, c0, c1, _, _, hri⟩ := hp.at_ (j := 0) (by decide)
  obtain ⟨b2, o2, rfl, c2⟩ := hri.at_ (k := 0) (by decide)
  have d0 : w'.cell? ⟨b, o, none⟩ = some (.int .i64 1) := c0
  have d1 : w'.cell? ⟨b, o + 1, none⟩ = some (.slice (some ⟨b2, o2, none⟩) 1 d) := by simpa using c1
  have d2 : w'.cell? ⟨b2, o2, none⟩ = some (.int .i64 6) := c2
  clear c0 c1 c2 hri hp
  go_wp2
  go_ret
  exact ⟨rfl, hx0.trans' hext⟩

end Go.Proofs.Ytmjmdncdmmcmaaa
