/- The list of choices (rollbacknetmake.Codes): what New, Left, Next and Int do. Conditions: the list has at most a thousand choices. -/
import Derived.Test.YtmjmdncdmmcmaaaRows
import Derived.Test.YtmjmdncdmmcmaaaMem
import Derived.IntWalk
namespace Go.Proofs.Ytmjmdncdmmcmaaa
open Go.RowKit
set_option linter.unusedVariables false

abbrev bytes (bs : List Int) : List Value := bs.map (Value.int .u8)
/-- block g is a list of choices of which i are used up -/
structure CodesAt (w : World) (g : Nat) (A : Option Addr) (c : Nat) (bs : List Int) (i : Nat) : Prop where
  blk : w.heap[g]? = some (.cells #[.slice A bs.length c, .int .i64 i] 77 (0, 0))
  le : i ≤ bs.length
  short : bs.length ≤ 1000
  byte : ∀ b ∈ bs, 0 ≤ b ∧ b ≤ 255
  rd : RV (fun k => k < g) w A (bytes bs)
/-- block g is a list of choices of which r are left -/
def Codes (w : World) (g : Nat) (r : List Int) : Prop := ∃ A c bs i, r = bs.drop i ∧ CodesAt w g A c bs i

theorem CodesAt.c0 {w : World} {g : Nat} {A : Option Addr} {c : Nat} {bs : List Int} {i : Nat} (h : CodesAt w g A c bs i) : w.cell? ⟨g, 0, none⟩ = some (.slice A bs.length c) := by
  simp [World.cell?, h.blk]
theorem CodesAt.c1 {w : World} {g : Nat} {A : Option Addr} {c : Nat} {bs : List Int} {i : Nat} (h : CodesAt w g A c bs i) : w.cell? ⟨g, 1, none⟩ = some (.int .i64 i) := by
  simp [World.cell?, h.blk]
theorem CodesAt.fz {w : World} {g : Nat} {A : Option Addr} {c : Nat} {bs : List Int} {i : Nat} (h : CodesAt w g A c bs i) (j : Nat) : w.frozen? ⟨g, j, none⟩ = false := by
  simp [World.frozen?, h.blk]
theorem CodesAt.lt {w : World} {g : Nat} {A : Option Addr} {c : Nat} {bs : List Int} {i : Nat} (h : CodesAt w g A c bs i) : g < w.heap.size := lt_of_block h.blk
theorem CodesAt.keep {w w' : World} {g : Nat} {A : Option Addr} {c : Nat} {bs : List Int} {i : Nat} (h : CodesAt w g A c bs i) (k : Ext w w') : CodesAt w' g A c bs i :=
  ⟨(k.block g h.lt).trans h.blk, h.le, h.short, h.byte, h.rd.ext k⟩
theorem CodesAt.step {w : World} {g : Nat} {A : Option Addr} {c : Nat} {bs : List Int} {i : Nat} (h : CodesAt w g A c bs i) (hi : i < bs.length) : CodesAt (w.setCell ⟨g, 1, none⟩ (.int .i64 ((i : Int) + 1))) g A c bs (i + 1) := by
  refine ⟨?_, by omega, h.short, h.byte, h.rd.keep ⟨rfl, rfl, rfl, by simp [World.setCell], fun k hk hne => Below.heap_setCell _ _ _ _ (by simp; omega)⟩⟩
  simp [World.setCell, Array.getElem?_modify, h.blk]
theorem Codes.ext {w w' : World} {g : Nat} {r : List Int} (h : Codes w g r) (k : Ext w w') : Codes w' g r :=
  let ⟨A, c, bs, i, e, h1⟩ := h; ⟨A, c, bs, i, e, h1.keep k⟩
theorem CodesAt.below {w w' : World} {g : Nat} {A : Option Addr} {c : Nat} {bs : List Int} {i : Nat} (h : CodesAt w g A c bs i) (k : Keep (fun k => k ≤ g) w w') : CodesAt w' g A c bs i :=
  ⟨(k.block g h.lt (Nat.le_refl g)).trans h.blk, h.le, h.short, h.byte, h.rd.keep (k.mono fun k hk => by omega)⟩
theorem Codes.below {w w' : World} {g : Nat} {r : List Int} (h : Codes w g r) (k : Keep (fun k => k ≤ g) w w') : Codes w' g r :=
  let ⟨A, c, bs, i, e, h1⟩ := h; ⟨A, c, bs, i, e, h1.below k⟩
theorem keep_above (w : World) (g : Nat) {p : Addr} (hp : g < p.block) (u : Value) : Keep (fun k => k ≤ g) w (w.setCell p u) :=
  ⟨rfl, rfl, rfl, by simp [World.setCell], fun k hk hne => Below.heap_setCell _ _ _ _ (by omega)⟩
theorem Codes.lt {w : World} {g : Nat} {r : List Int} (h : Codes w g r) : g < w.heap.size := let ⟨_, _, _, _, _, h1⟩ := h; h1.lt
theorem Codes.byte {w : World} {g : Nat} {r : List Int} (h : Codes w g r) : ∀ b ∈ r, 0 ≤ b ∧ b ≤ 255 := by
  obtain ⟨A, c, bs, i, rfl, h1⟩ := h
  exact fun b hb => h1.byte b (List.mem_of_mem_drop hb)
/-- what changes is block g alone -/
theorem keep_setCell (w : World) (g j : Nat) (u : Value) : Keep (fun k => k ≠ g) w (w.setCell ⟨g, j, none⟩ u) :=
  ⟨rfl, rfl, rfl, by simp [World.setCell], fun k hk hne => Below.heap_setCell _ _ _ _ hne⟩

/-- the next choice, and those that are left -/
def nxt (r : List Int) (n : Nat) : Nat := match r with | [] => 0 | b :: _ => b.toNat % n
theorem nxt_lt (r : List Int) {n : Nat} (hn : 0 < n) : nxt r n < n := by
  cases r with
  | nil => exact hn
  | cons b r => exact Nat.mod_lt _ hn

set_option maxHeartbeats 400000 in
theorem left_at {A : Option Addr} {c i : Nat} {bs : List Int} (g : Nat) (w : World) (h : CodesAt w g A c bs i) :
    Calls Try.prog 84 #[.pointer (some ⟨g, 0, none⟩)] w fun e w' => e = .returned (.bool (decide (i < bs.length))) ∧ ∃ n, w' = w.drewN n := by
  have h0 := h.c0
  have h1 := h.c1
  clear h
  go_enter Try.func84, Try.ntmps84
  go_wp2
  go_quiet (fail)
  go_wp2
  go_ret
  exact ⟨ret_bool (by simp), _, rfl⟩

theorem left_any (g : Nat) (r : List Int) (w : World) (h : Codes w g r) :
    Calls Try.prog 84 #[.pointer (some ⟨g, 0, none⟩)] w fun e w' => e = .returned (.bool (!r.isEmpty)) ∧ ∃ n, w' = w.drewN n := by
  obtain ⟨A, c, bs, i, rfl, h1⟩ := h
  refine (left_at g w h1).mono fun e w' ⟨he, hw⟩ => ⟨he.trans (ret_bool ?_), hw⟩
  have := h1.le
  rw [Bool.eq_iff_iff]; simp

set_option maxHeartbeats 800000 in
theorem next_at {A : Option Addr} {c i : Nat} {bs : List Int} (g n : Nat) (w : World) (h : CodesAt w g A c bs i) (hn : 1 ≤ n) (hn' : n ≤ 1000000) (hi : i < bs.length) :
    Calls Try.prog 46 #[.pointer (some ⟨g, 0, none⟩), .int .i64 n] w fun e w' => e = .returned (.int .i64 ((bs[i].toNat % n : Nat) : Int)) ∧ ∃ m, w' = (w.setCell ⟨g, 1, none⟩ (.int .i64 ((i : Int) + 1))).drewN m := by
  have h0 := h.c0
  have h1 := h.c1
  have hf := h.fz 1
  have hs := h.step hi
  have h2 := hs.c0
  have h3 : (w.setCell ⟨g, 1, none⟩ (.int .i64 ((i : Int) + 1))).cell? ⟨g, 1, none⟩ = some (.int .i64 ((i : Int) + 1)) := by simpa using hs.c1
  have hshort := h.short
  obtain ⟨b, o, rfl, _, hc⟩ := hs.rd i (.int .u8 bs[i]) (by simp [hi])
  have hb := h.byte bs[i] (by simp)
  obtain ⟨hb0, hb1⟩ := hb
  have hi1 : (i : Int) < bs.length := by omega
  have hL := left_at g w h
  have HL := Lib.hid hL
  clear hL h hs
  generalize hbi : bs[i] = y at *
  have HB := Lib.hid hbi
  clear hbi
  go_enter Try.func46, Try.ntmps46
  go_wp2_with fail
  refine (HL.out).mono ?_
  rintro e w' ⟨rfl, m, rfl⟩
  have hd : decide (i < bs.length) = true := by simp [hi]
  rw [hd]
  clear hd
  have hc' : ((w.drewN m).setCell ⟨g, 1, none⟩ (.int .i64 ((i : Int) + 1))).cell? ⟨b, o + i, none⟩ = some (.int .u8 y) := hc
  go_wp2
  have hw : IntKind.i64.wrap (i : Int) = i := IntWalk.i64_in _ (by omega)
  have hw2 : IntKind.i64.wrap y = y := IntWalk.i64_in _ (by omega)
  go_quiet (fail)
  clear hw hw2
  go_wp2
  go_ret
  refine ⟨ret_int ?_, m + nq, World.drewN_drewN (w.setCell ⟨g, 1, none⟩ (.int .i64 ((i : Int) + 1))) m nq⟩
  show y % (n : Int) = _
  rw [Int.natCast_emod, Int.toNat_of_nonneg hb0]

set_option maxHeartbeats 800000 in
theorem next_none {A : Option Addr} {c i : Nat} {bs : List Int} (g : Nat) (n : Int) (w : World) (h : CodesAt w g A c bs i) (hi : ¬ i < bs.length) :
    Calls Try.prog 46 #[.pointer (some ⟨g, 0, none⟩), .int .i64 n] w fun e w' => e = .returned (.int .i64 0) ∧ ∃ m, w' = w.drewN m := by
  have hL := left_at g w h
  have hd : decide (i < bs.length) = false := by simp; omega
  rw [hd] at hL
  clear hd
  have HL := Lib.hid hL
  clear hL h hi
  go_enter Try.func46, Try.ntmps46
  go_wp2_with fail
  refine (HL.out).mono ?_
  rintro e w' ⟨rfl, m, rfl⟩
  go_wp2
  go_ret
  exact ⟨rfl, m, rfl⟩

/-- Next: the next choice; block g alone has changed, nothing new was made -/
theorem next_any (g : Nat) (r : List Int) (n : Nat) (w : World) (h : Codes w g r) (hn : 1 ≤ n) (hn' : n ≤ 1000000) :
    Calls Try.prog 46 #[.pointer (some ⟨g, 0, none⟩), .int .i64 n] w fun e w' => e = .returned (.int .i64 (nxt r n : Int)) ∧ Codes w' g r.tail ∧ Keep (fun k => k ≠ g) w w' ∧ w'.heap.size = w.heap.size := by
  obtain ⟨A, c, bs, i, rfl, h1⟩ := h
  by_cases hi : i < bs.length
  · refine (next_at g n w h1 hn hn' hi).mono fun e w' ⟨he, m, hw⟩ => ?_
    subst hw
    refine ⟨he.trans (ret_int ?_), ⟨A, c, bs, i + 1, by simp, (h1.step hi).keep ((Ext.refl' _).drewN' m)⟩, (keep_setCell w g 1 _).drewN m, by simp [World.setCell]⟩
    rw [List.drop_eq_getElem_cons hi]; rfl
  · refine (next_none g n w h1 hi).mono fun e w' ⟨he, m, hw⟩ => ?_
    subst hw
    have e0 : bs.drop i = [] := List.drop_eq_nil_of_le (by omega)
    refine ⟨he.trans (ret_int ?_), ⟨A, c, bs, i, by simp [e0], h1.keep ((Ext.refl' _).drewN' m)⟩, (Keep.refl _ w).drewN m, rfl⟩
    rw [e0]; rfl

set_option maxHeartbeats 400000 in
theorem new_any {S : Nat → Prop} (A : Option Addr) (c m : Nat) (bs : List Int) (w : World) (hm : m ≤ 1000) (ha : RV S w A (bytes bs)) (hc : bs.length ≤ c) (hc' : c ≤ 9223372036854775807) (hb : ∀ b ∈ bs, 0 ≤ b ∧ b ≤ 255) :
    Calls Try.prog 16 #[.slice A bs.length c, .int .i64 m] w fun e w' => e = .returned (.pointer (some ⟨w.heap.size, 0, none⟩)) ∧ Codes w' w.heap.size (bs.take m) ∧ Ext w w' ∧ w'.heap.size = w.heap.size + 1 := by
  have key : ∀ (c' : Nat), Codes (w.alloc (.cells #[.slice A (bs.take m).length c', .int .i64 0] 77)) w.heap.size (bs.take m) := by
    intro c'
    refine ⟨A, c', bs.take m, 0, rfl, ⟨?_, Nat.zero_le _, by rw [List.length_take]; omega, fun b h => hb b (List.mem_of_mem_take h), ?_⟩⟩
    · show (w.heap.push _)[w.heap.size]? = _; simp
    · have h1 : RV S w A (bytes (bs.take m)) := by rw [bytes, List.map_take]; exact ha.take m
      exact h1.into (fun k hs hk => ⟨by omega, Below.heap_alloc _ _ _ hk⟩)
  have HK := Lib.hid key
  clear key
  by_cases hlt : m < bs.length
  · go_enter Try.func16, Try.ntmps16
    go_wp2
    go_ret
    have := HK.out c
    rw [List.length_take, Nat.min_eq_left (by omega)] at this
    exact ⟨rfl, this, (Ext.refl' w).alloc' _, by simp⟩
  · go_enter Try.func16, Try.ntmps16
    go_wp2
    go_ret
    have := HK.out c
    rw [List.length_take, Nat.min_eq_right (by omega)] at this
    exact ⟨rfl, this, (Ext.refl' w).alloc' _, by simp⟩

end Go.Proofs.Ytmjmdncdmmcmaaa
