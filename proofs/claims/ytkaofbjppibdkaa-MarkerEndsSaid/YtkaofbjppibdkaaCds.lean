/- The list of choices (rollbacknetmake.Codes): what New, Left and Next do, over the state of a call. Conditions: the list has at most a thousand choices. -/
import Derived.Test.YtkaofbjppibdkaaRows
import Derived.Test.YtkaofbjppibdkaaArms
import Derived.Test.YtkaofbjppibdkaaTypes
import Derived.IntWalk
namespace Go.Proofs.Ytkaofbjppibdkaa
open Go.RowKit
set_option linter.unusedVariables false

abbrev bytes (bs : List Int) : List Value := bs.map (Value.int .u8)
/-- block g is a list of choices of which i are used up -/
structure CodesAt (w : World) (g : Nat) (A : Option Addr) (c : Nat) (bs : List Int) (i : Nat) : Prop where
  blk : w.heap[g]? = some (.cells #[.slice A bs.length c, .int .i64 i] 91 (0, 0))
  le : i ≤ bs.length
  short : bs.length ≤ 1000
  byte : ∀ b ∈ bs, 0 ≤ b ∧ b ≤ 255
  rd : RV (fun k => k ≠ g) w A (bytes bs)
/-- block g is a list of choices of which r are left -/
def Codes (w : World) (g : Nat) (r : List Int) : Prop := ∃ A c bs i, r = bs.drop i ∧ CodesAt w g A c bs i

theorem CodesAt.c0 {w : World} {g : Nat} {A : Option Addr} {c : Nat} {bs : List Int} {i : Nat} (h : CodesAt w g A c bs i) : w.cell? ⟨g, 0, none⟩ = some (.slice A bs.length c) := by
  simp [World.cell?, h.blk]
theorem CodesAt.c1 {w : World} {g : Nat} {A : Option Addr} {c : Nat} {bs : List Int} {i : Nat} (h : CodesAt w g A c bs i) : w.cell? ⟨g, 1, none⟩ = some (.int .i64 i) := by
  simp [World.cell?, h.blk]
theorem CodesAt.fz {w : World} {g : Nat} {A : Option Addr} {c : Nat} {bs : List Int} {i : Nat} (h : CodesAt w g A c bs i) (j : Nat) : w.frozen? ⟨g, j, none⟩ = false := by
  simp [World.frozen?, h.blk]
theorem CodesAt.lt {w : World} {g : Nat} {A : Option Addr} {c : Nat} {bs : List Int} {i : Nat} (h : CodesAt w g A c bs i) : g < w.heap.size := lt_of_block h.blk
theorem CodesAt.keep {w w' : World} {g : Nat} {A : Option Addr} {c : Nat} {bs : List Int} {i : Nat} (h : CodesAt w g A c bs i) (k : Ext w w') : CodesAt w' g A c bs i :=
  ⟨(k.block g h.lt).trans h.blk, h.le, h.short, h.byte, h.rd.ext k⟩
theorem CodesAt.step {w : World} {g : Nat} {A : Option Addr} {c : Nat} {bs : List Int} {i : Nat} (h : CodesAt w g A c bs i) (hi : i < bs.length) : CodesAt (w.setCell ⟨g, 1, none⟩ (.int .i64 ((i : Int) + 1))) g A c bs (i + 1) := by
  refine ⟨?_, by omega, h.short, h.byte, h.rd.keep ⟨rfl, rfl, rfl, by simp [World.setCell], fun k hk hne => Below.heap_setCell _ _ _ _ hne⟩⟩
  simp [World.setCell, Array.getElem?_modify, h.blk]
theorem Codes.ext {w w' : World} {g : Nat} {r : List Int} (h : Codes w g r) (k : Ext w w') : Codes w' g r :=
  let ⟨A, c, bs, i, e, h1⟩ := h; ⟨A, c, bs, i, e, h1.keep k⟩
theorem Codes.lt {w : World} {g : Nat} {r : List Int} (h : Codes w g r) : g < w.heap.size := let ⟨_, _, _, _, _, h1⟩ := h; h1.lt
theorem Codes.byte {w : World} {g : Nat} {r : List Int} (h : Codes w g r) : ∀ b ∈ r, 0 ≤ b ∧ b ≤ 255 := by
  obtain ⟨A, c, bs, i, rfl, h1⟩ := h
  exact fun b hb => h1.byte b (List.mem_of_mem_drop hb)
/-- what changes is block g alone -/
theorem keep_setCell (w : World) (g j : Nat) (u : Value) : Keep (fun k => k ≠ g) w (w.setCell ⟨g, j, none⟩ u) :=
  ⟨rfl, rfl, rfl, by simp [World.setCell], fun k hk hne => Below.heap_setCell _ _ _ _ hne⟩

/-- the next choice, and those that are left -/
def nxt (r : List Int) (n : Nat) : Nat := match r with | [] => 0 | b :: _ => b.toNat % n
theorem nxt_lt (r : List Int) {n : Nat} (hn : 0 < n) : nxt r n < n := by
  cases r with
  | nil => exact hn
  | cons b r => exact Nat.mod_lt _ hn

set_option maxHeartbeats 400000 in
theorem left_at {A : Option Addr} {c i : Nat} {bs : List Int} (g : Nat) (w : World) (h : CodesAt w g A c bs i) :
    Calls Try.prog 52 #[.pointer (some ⟨g, 0, none⟩)] w fun e w' => e = .returned (.bool (decide (i < bs.length))) ∧ ∃ n, w' = w.drewN n := by
  have h0 := h.c0
  have h1 := h.c1
  clear h
  go_enter Try.func52, Try.ntmps52
  go_wp2
  go_quiet (fail)
  go_wp2
  go_ret
  exact ⟨ret_bool (by simp), _, rfl⟩

theorem left_any (g : Nat) (r : List Int) (w : World) (h : Codes w g r) :
    Calls Try.prog 52 #[.pointer (some ⟨g, 0, none⟩)] w fun e w' => e = .returned (.bool (!r.isEmpty)) ∧ ∃ n, w' = w.drewN n := by
  obtain ⟨A, c, bs, i, rfl, h1⟩ := h
  refine (left_at g w h1).mono fun e w' ⟨he, hw⟩ => ⟨he.trans (ret_bool ?_), hw⟩
  have := h1.le
  rw [Bool.eq_iff_iff]; simp

set_option maxHeartbeats 800000 in
theorem next_at {A : Option Addr} {c i : Nat} {bs : List Int} (g n : Nat) (w : World) (h : CodesAt w g A c bs i) (hn : 1 ≤ n) (hn' : n ≤ 1000000) (hi : i < bs.length) :
    Calls Try.prog 31 #[.pointer (some ⟨g, 0, none⟩), .int .i64 n] w fun e w' => e = .returned (.int .i64 ((bs[i].toNat % n : Nat) : Int)) ∧ ∃ m, w' = (w.setCell ⟨g, 1, none⟩ (.int .i64 ((i : Int) + 1))).drewN m := by
  have h0 := h.c0
  have h1 := h.c1
  have hf := h.fz 1
  have hs := h.step hi
  have h2 := hs.c0
  have h3 : (w.setCell ⟨g, 1, none⟩ (.int .i64 ((i : Int) + 1))).cell? ⟨g, 1, none⟩ = some (.int .i64 ((i : Int) + 1)) := by simpa using hs.c1
  have hshort := h.short
  obtain ⟨b, o, rfl, _, hc⟩ := hs.rd i (.int .u8 bs[i]) (by simp [hi])
  have hb := h.byte bs[i] (by simp)
  obtain ⟨hb0, hb1⟩ := hb
  have hi1 : (i : Int) < bs.length := by omega
  have hL := left_at g w h
  have HL := Lib.hid hL
  clear hL h hs
  generalize hbi : bs[i] = y at *
  have HB := Lib.hid hbi
  clear hbi
  go_enter Try.func31, Try.ntmps31
  go_wp2_with fail
  refine (HL.out).mono ?_
  rintro e w' ⟨rfl, m, rfl⟩
  have hd : decide (i < bs.length) = true := by simp [hi]
  rw [hd]
  clear hd
  have hc' : ((w.drewN m).setCell ⟨g, 1, none⟩ (.int .i64 ((i : Int) + 1))).cell? ⟨b, o + i, none⟩ = some (.int .u8 y) := hc
  go_wp2
  have hw : IntKind.i64.wrap (i : Int) = i := IntWalk.i64_in _ (by omega)
  have hw2 : IntKind.i64.wrap y = y := IntWalk.i64_in _ (by omega)
  go_quiet (fail)
  clear hw hw2
  go_wp2
  go_ret
  refine ⟨ret_int ?_, m + nq, World.drewN_drewN (w.setCell ⟨g, 1, none⟩ (.int .i64 ((i : Int) + 1))) m nq⟩
  show y % (n : Int) = _
  rw [Int.natCast_emod, Int.toNat_of_nonneg hb0]

set_option maxHeartbeats 800000 in
theorem next_none {A : Option Addr} {c i : Nat} {bs : List Int} (g : Nat) (n : Int) (w : World) (h : CodesAt w g A c bs i) (hi : ¬ i < bs.length) :
    Calls Try.prog 31 #[.pointer (some ⟨g, 0, none⟩), .int .i64 n] w fun e w' => e = .returned (.int .i64 0) ∧ ∃ m, w' = w.drewN m := by
  have hL := left_at g w h
  have hd : decide (i < bs.length) = false := by simp; omega
  rw [hd] at hL
  clear hd
  have HL := Lib.hid hL
  clear hL h hi
  go_enter Try.func31, Try.ntmps31
  go_wp2_with fail
  refine (HL.out).mono ?_
  rintro e w' ⟨rfl, m, rfl⟩
  go_wp2
  go_ret
  exact ⟨rfl, m, rfl⟩

/-- Next: the next choice; block g alone has changed, nothing new was made -/
theorem next_full {A : Option Addr} {c i : Nat} {bs : List Int} (g n : Nat) (w : World) (h1 : CodesAt w g A c bs i) (hn : 1 ≤ n) (hn' : n ≤ 1000000) :
    Calls Try.prog 31 #[.pointer (some ⟨g, 0, none⟩), .int .i64 n] w fun e w' => e = .returned (.int .i64 (nxt (bs.drop i) n : Int)) ∧ (∃ j, (bs.drop i).tail = bs.drop j ∧ CodesAt w' g A c bs j) ∧ Keep (fun k => k ≠ g) w w' ∧ w'.heap.size = w.heap.size := by
  by_cases hi : i < bs.length
  · refine (next_at g n w h1 hn hn' hi).mono fun e w' ⟨he, m, hw⟩ => ?_
    subst hw
    refine ⟨he.trans (ret_int ?_), ⟨i + 1, by simp, (h1.step hi).keep ((Ext.refl' _).drewN' m)⟩, (keep_setCell w g 1 _).drewN m, by simp [World.setCell]⟩
    rw [List.drop_eq_getElem_cons hi]; rfl
  · refine (next_none g n w h1 hi).mono fun e w' ⟨he, m, hw⟩ => ?_
    subst hw
    have e0 : bs.drop i = [] := List.drop_eq_nil_of_le (by omega)
    refine ⟨he.trans (ret_int ?_), ⟨i, by simp [e0], h1.keep ((Ext.refl' _).drewN' m)⟩, (Keep.refl _ w).drewN m, rfl⟩
    rw [e0]; rfl

set_option maxHeartbeats 400000 in
theorem new_at {S : Nat → Prop} (A : Option Addr) (c m : Nat) (bs : List Int) (w : World) (hm : m ≤ 1000) (ha : RV S w A (bytes bs)) (hc : bs.length ≤ c) (hc' : c ≤ 9223372036854775807) (hb : ∀ b ∈ bs, 0 ≤ b ∧ b ≤ 255) :
    Calls Try.prog 30 #[.slice A bs.length c, .int .i64 m] w fun e w' => e = .returned (.pointer (some ⟨w.heap.size, 0, none⟩)) ∧ (∃ c', CodesAt w' w.heap.size A c' (bs.take m) 0) ∧ Ext w w' ∧ w'.heap.size = w.heap.size + 1 := by
  have key : ∀ (c' : Nat), CodesAt (w.alloc (.cells #[.slice A (bs.take m).length c', .int .i64 0] 91)) w.heap.size A c' (bs.take m) 0 := by
    intro c'
    refine ⟨?_, Nat.zero_le _, by rw [List.length_take]; omega, fun b h => hb b (List.mem_of_mem_take h), ?_⟩
    · show (w.heap.push _)[w.heap.size]? = _; simp
    · have h1 : RV S w A (bytes (bs.take m)) := by rw [bytes, List.map_take]; exact ha.take m
      exact h1.into (fun k hs hk => ⟨by omega, Below.heap_alloc _ _ _ hk⟩)
  have HK := Lib.hid key
  clear key
  by_cases hlt : m < bs.length
  · go_enter Try.func30, Try.ntmps30
    go_wp2
    go_ret
    have := HK.out c
    rw [List.length_take, Nat.min_eq_left (by omega)] at this
    exact ⟨rfl, ⟨_, this⟩, (Ext.refl' w).alloc' _, by simp⟩
  · go_enter Try.func30, Try.ntmps30
    go_wp2
    go_ret
    have := HK.out c
    rw [List.length_take, Nat.min_eq_right (by omega)] at this
    exact ⟨rfl, ⟨_, this⟩, (Ext.refl' w).alloc' _, by simp⟩


/-- where a list of choices lies -/
structure CK where
  A : Option Addr
  c : Nat
  bs : List Int
/-- block g is the list of choices κ, of which r are left -/
def CdsAt (w : World) (g : Nat) (κ : CK) (r : List Int) : Prop := ∃ i, r = κ.bs.drop i ∧ CodesAt w g κ.A κ.c κ.bs i
theorem CdsAt.lt {w : World} {g : Nat} {κ : CK} {r : List Int} (h : CdsAt w g κ r) : g < w.heap.size := let ⟨_, _, h1⟩ := h; h1.lt
theorem CdsAt.ext {w w' : World} {g : Nat} {κ : CK} {r : List Int} (h : CdsAt w g κ r) (k : Ext w w') : CdsAt w' g κ r := let ⟨i, e, h1⟩ := h; ⟨i, e, h1.keep k⟩
theorem CdsAt.byte {w : World} {g : Nat} {κ : CK} {r : List Int} (h : CdsAt w g κ r) : ∀ b ∈ r, 0 ≤ b ∧ b ≤ 255 := by
  obtain ⟨i, rfl, h1⟩ := h
  exact fun b hb => h1.byte b (List.mem_of_mem_drop hb)
/-- the choices r that are left, as a piece of memory -/
def cds {w0 : World} {M : Nat → Prop} (g : Nat) (κ : CK) (r : List Int) : Chunk w0 M where
  own k := k = g
  ok w := CdsAt w g κ r ∧ RV (fun k => Froz w0 M k ∧ k ≠ g) w κ.A (bytes κ.bs)
  loc {w w'} h hk := by
    obtain ⟨⟨i, e, h1⟩, h5⟩ := h
    have h5' : RV (fun k => Froz w0 M k ∧ k ≠ g) w' κ.A (bytes κ.bs) := h5.into (fun k hs _ => ⟨hs, hk k (.inr hs.1)⟩)
    exact ⟨⟨i, e, ⟨(hk g (.inl rfl)).trans h1.blk, h1.le, h1.short, h1.byte, h5'.sub fun _ h => h.2⟩⟩, h5'⟩
  lt h e := e ▸ h.1.lt
section
variable {w0 w : World} {M : Nat → Prop} {cs : List (Chunk w0 M)} {f : Chunk w0 M → List (Chunk w0 M)}
class PickC {w0 : World} {M : Nat → Prop} (g : Nat) (cs : List (Chunk w0 M)) (κ : outParam CK) (r : outParam (List Int)) (f : outParam (Chunk w0 M → List (Chunk w0 M))) : Prop where
  eq : cs = f (cds g κ r)
  gap : Gap f
instance (g : Nat) (κ : CK) (r : List Int) (s : List (Chunk w0 M)) : PickC g (cds g κ r :: s) κ r (fun c => c :: s) := ⟨rfl, .head s⟩
instance (priority := low) (g : Nat) (κ : CK) (r : List Int) (d : Chunk w0 M) (s : List (Chunk w0 M)) (f : Chunk w0 M → List (Chunk w0 M)) [h : PickC g s κ r f] : PickC g (d :: s) κ r (fun c => d :: f c) := ⟨by rw [h.eq], .tail d h.gap⟩
theorem St.codes {g : Nat} {κ : CK} {r : List Int} (h : St w0 M cs w) [hp : PickC g cs κ r f] : CdsAt w g κ r := ((hp.eq ▸ h : St w0 M (f (cds g κ r)) w).at_ hp.gap).1
/-- what a call does that uses up choices -/
theorem St.used {g : Nat} {κ : CK} {r r' : List Int} {w' : World} (h : St w0 M cs w) [hp : PickC g cs κ r f] (hc : CdsAt w' g κ r') (hk : Keep (fun k => k ≠ g) w w') : St w0 M (f (cds g κ r')) w' := by
  have h' : St w0 M (f (cds g κ r)) w := hp.eq ▸ h
  exact h'.updG hp.gap hk ⟨hc, (h'.at_ hp.gap).2.into (fun k hs hk' => ⟨hs, hk.block k hk' hs.2⟩)⟩ (fun k e => .inl e)
theorem St.usedAdd {g : Nat} {κ : CK} {r r' : List Int} {w' : World} {d : Chunk w0 M} (h : St w0 M cs w) [hp : PickC g cs κ r f] (hc : CdsAt w' g κ r') (hk : Keep (fun k => k ≠ g) w w') (hd : d.ok w') (hnew : ∀ k, d.own k → w.heap.size ≤ k) : St w0 M (d :: f (cds g κ r')) w' := by
  have h' : St w0 M (f (cds g κ r)) w := hp.eq ▸ h
  exact h'.updAdd hp.gap hk ⟨hc, (h'.at_ hp.gap).2.into (fun k hs hk' => ⟨hs, hk.block k hk' hs.2⟩)⟩ (fun k e => e) hd hnew
/-- the state at the entry of a function that uses up choices -/
theorem St.startC {g : Nat} {κ : CK} {r : List Int} (h : CdsAt w g κ r) : St w (fun k => k = g) [cds g κ r] w := by
  obtain ⟨i, e, h1⟩ := h
  refine ⟨Keep.refl _ _, ?_, ?_, by simp⟩
  · intro c hc
    rw [List.mem_singleton.1 hc]
    exact ⟨⟨i, e, h1⟩, h1.rd.into (fun k hs hk => ⟨⟨⟨hk, hs⟩, hs⟩, rfl⟩)⟩
  · intro c hc k hk
    rw [List.mem_singleton.1 hc] at hk
    exact .inr hk
theorem next_st {g n : Nat} {κ : CK} {r : List Int} (h : St w0 M cs w) [hp : PickC g cs κ r f] (hn : 1 ≤ n) (hn' : n ≤ 1000000) :
    Calls Try.prog 31 #[.pointer (some ⟨g, 0, none⟩), .int .i64 n] w fun e w' => e = .returned (.int .i64 (nxt r n : Int)) ∧ St w0 M (f (cds g κ r.tail)) w' := by
  obtain ⟨i, e, h1⟩ := h.codes (g := g) (κ := κ) (r := r) (f := f)
  subst e
  exact (next_full g n w h1 hn hn').mono fun e w' ⟨he, ⟨j, hj, hc'⟩, hk, hz⟩ => ⟨he, h.used (r := κ.bs.drop i) ⟨j, hj, hc'⟩ hk⟩
/-- Next of a number that may be spelled in any way -/
theorem next_z {g : Nat} (n : Nat) {z : Int} {κ : CK} {r : List Int} (h : St w0 M cs w) [hp : PickC g cs κ r f] (hz : z = n) (hn : 1 ≤ n) (hn' : n ≤ 1000000) :
    Calls Try.prog 31 #[.pointer (some ⟨g, 0, none⟩), .int .i64 z] w fun e w' => e = .returned (.int .i64 (nxt r n : Int)) ∧ St w0 M (f (cds g κ r.tail)) w' := by
  subst hz; exact next_st h hn hn'
/-- New, for a list in old memory -/
theorem new_st {A : Option Addr} {c m : Nat} {bs : List Int} (h : St w0 M cs w) (hm : m ≤ 1000) (ha : RV (Froz w0 M) w0 A (bytes bs)) (hc : bs.length ≤ c) (hc' : c ≤ 9223372036854775807) (hb : ∀ b ∈ bs, 0 ≤ b ∧ b ≤ 255) :
    Calls Try.prog 30 #[.slice A bs.length c, .int .i64 m] w fun e w' => ∃ g κ, e = .returned (.pointer (some ⟨g, 0, none⟩)) ∧ St w0 M (cds g κ (bs.take m) :: cs) w' := by
  have haw : RV (Froz w0 M) w A (bytes bs) := ha.into (fun k hs hk => ⟨hs, h.keep.block k hk hs.2⟩)
  refine (new_at A c m bs w hm haw hc hc' hb).mono fun e w' ⟨he, ⟨c', hcd⟩, hx, hz⟩ => ⟨w.heap.size, ⟨A, c', bs.take m⟩, he, h.add hx ⟨⟨0, rfl, hcd⟩, ?_⟩ (fun k e => Nat.le_of_eq e.symm)⟩
  have h1 : RV (Froz w0 M) w A (bytes (bs.take m)) := by rw [bytes, List.map_take]; exact haw.take m
  exact h1.into (fun k hs hk => ⟨⟨hs, by omega⟩, hx.block k hk⟩)
theorem St.rowFresh {g0 : Nat} {κ : CK} {r : List Int} {cs : List (Chunk w0 (fun k => k = g0))} {f : Chunk w0 (fun k => k = g0) → List (Chunk w0 (fun k => k = g0))} {v : Value} {e : TypeId} {sz n : Nat} {vs : List Value} (h : St w0 (fun k => k = g0) cs w) [hp : PickR v cs e sz n vs f] [hq : MemC (cds g0 κ r) (f nop)] : w.ownsRow w0.heap.size e sz v n vs := by
  refine h.rowNew (fun k hk hv => ?_)
  subst hk
  have h' : St w0 (fun k' => k' = k) (f (row v e sz n vs)) w := hp.eq ▸ h
  obtain ⟨s, h1, h2⟩ := gap_perm hp.gap (row v e sz n vs)
  have hm : cds k κ r ∈ s := by
    rcases List.mem_cons.1 ((h2 nop).mem_iff.2 hq.h) with h3 | h3
    · have := congrArg (fun c => c.own k) h3
      simp [cds, nop] at this
    · exact h3
  exact (List.pairwise_cons.1 (h'.perm h1).apart).1 _ hm k hv rfl
theorem left_st {g : Nat} {κ : CK} {r : List Int} (h : St w0 M cs w) [hp : PickC g cs κ r f] :
    Calls Try.prog 52 #[.pointer (some ⟨g, 0, none⟩)] w fun e w' => e = .returned (.bool (!r.isEmpty)) ∧ St w0 M cs w' := by
  obtain ⟨i, e, h1⟩ := h.codes (g := g) (κ := κ) (r := r) (f := f)
  exact (left_any g r w ⟨_, _, _, i, e, h1⟩).mono fun e w' ⟨he, n, hw⟩ => ⟨he, by subst hw; exact h.drewN n⟩
end
end Go.Proofs.Ytkaofbjppibdkaa
