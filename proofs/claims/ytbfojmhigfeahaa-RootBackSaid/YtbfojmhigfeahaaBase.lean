/-
  Words on memory: a slice that reads as a list of limbs ('Nt'), as a number ('Nw'); a world that has only grown ('Ext').
-/
import Derived.WalkKit
import Derived.WalkLawsBesides
import Derived.WalkSpells
import Derived.Lib.Hide
import Derived.Laws.AppendOwnNone
import Derived.Laws.CopyOwn
import Derived.OwnWalkIn
import Derived.StillTailTactics
import Derived.Deep.RegionHeld3
import Derived.Deep.AppendLies
import Derived.Deep.QuietTactic
import Derived.BigQuiet
import Derived.Test.YtbfojmhigfeahaaMath
namespace Go.Rt
open Go.RowKit

/-- the i-th of a list of numbers, 0 behind its end; a name of its own, so that the walk leaves it as it is -/
def lg (xs : List Nat) (i : Nat) : Nat := xs.getD i 0

/-- What was there is as it was. -/
def Ext (w w' : World) : Prop := Below w.heap.size w w'

theorem Ext.refl (w : World) : Ext w w := Below.refl _ _
theorem Ext.size {w w' : World} (h : Ext w w') : w.heap.size ≤ w'.heap.size := Below.size h
theorem Ext.trans {a b c : World} (h : Ext a b) (k : Ext b c) : Ext a c := Below.trans h (Below.mono k h.size)
theorem Ext.drew {a b : World} (h : Ext a b) : Ext a b.drew := Below.drew h
theorem Ext.drewN {a b : World} (h : Ext a b) (n : Nat) : Ext a (b.drewN n) := Below.trans h ⟨rfl, rfl, rfl, Nat.le_refl _, fun _ _ => rfl⟩
theorem Ext.drew1 (a : World) : Ext a a.drew := (Ext.refl a).drew
theorem Ext.alloc {a b : World} (h : Ext a b) (o : Obj) : Ext a (b.alloc o) := Below.alloc h h.size o
theorem Ext.alloc1 (a : World) (o : Obj) : Ext a (a.alloc o) := (Ext.refl a).alloc o
theorem Ext.setCell {a b : World} (h : Ext a b) {p : Addr} (hp : a.heap.size ≤ p.block) (v : Value) : Ext a (b.setCell p v) := Below.setCell h hp v
theorem Ext.grown {a b c : World} {row : Option Nat} (h : Ext a b) (hg : b.grownBy c row) (hr : ∀ k, row = some k → a.heap.size ≤ k) : Ext a c := Below.grown h hg h.size hr
theorem Ext.cell {w w' : World} (h : Ext w w') {p : Addr} {v : Value} (hc : w.cell? p = some v) : w'.cell? p = some v :=
  (Below.cell h (World.block_lt_of_cell? w p hc)).trans hc
theorem heap_last (w : World) (o : Obj) : (w.alloc o).heap[w.heap.size]? = some o := heap_alloc_new w o
theorem heap_last_drew (w : World) (o : Obj) : (w.alloc o).drew.heap[w.heap.size]? = some o := heap_alloc_new w o
theorem quiet_same {P : Program} {f : FuncId} {args : Array Value} {w : World} {n : Nat} {v : Value} (h : Calls P f args (w.drewN n) fun e w' => e = .returned v ∧ w.drewN n = w') : Calls P f args (w.drewN n) fun e w'' => e = .returned v ∧ ∃ m, w'' = w.drewN m :=
  h.mono fun _ _ ⟨he, hm⟩ => ⟨he, n, hm.symm⟩
theorem Ext.below {w w' : World} (h : Ext w w') : Below w.heap.size w w' := h

theorem ret_i {k : IntKind} {a b : Int} (h : a = b) : Ending.returned (.int k a) = .returned (.int k b) := by rw [h]
theorem ret_b {a b : Bool} (h : a = b) : Ending.returned (.bool a) = .returned (.bool b) := by rw [h]

/-- A slice value of n cells, each as told. -/
def Sl (w : World) (a : Option Addr) (b o n cap : Nat) (c : Nat → Value) : Prop :=
  (a = some ⟨b, o, none⟩ ∨ (a = none ∧ n = 0 ∧ cap = 0)) ∧ n ≤ cap ∧ cap ≤ maxLen ∧ ∀ i, i < n → w.cell? ⟨b, o + i, none⟩ = some (c i)

theorem Sl.ext {w w' : World} (h : Ext w w') {a : Option Addr} {b o n cap : Nat} {c : Nat → Value} (s : Sl w a b o n cap c) : Sl w' a b o n cap c :=
  ⟨s.1, s.2.1, s.2.2.1, fun i hi => h.cell (s.2.2.2 i hi)⟩
theorem Sl.cell {w : World} {a : Option Addr} {b o n cap : Nat} {c : Nat → Value} (s : Sl w a b o n cap c) {i : Nat} (hi : i < n) : w.cell? ⟨b, o + i, none⟩ = some (c i) := s.2.2.2 i hi
theorem Sl.addr {w : World} {a : Option Addr} {b o n cap : Nat} {c : Nat → Value} (s : Sl w a b o n cap c) (hn : 0 < n) : a = some ⟨b, o, none⟩ := by
  rcases s.1 with h | ⟨_, h, _⟩
  · exact h
  · omega
theorem Sl.le {w : World} {a : Option Addr} {b o n cap : Nat} {c : Nat → Value} (s : Sl w a b o n cap c) : n ≤ cap := s.2.1
theorem Sl.max {w : World} {a : Option Addr} {b o n cap : Nat} {c : Nat → Value} (s : Sl w a b o n cap c) : cap ≤ 9223372036854775807 := s.2.2.1

theorem Sl.part {w : World} {a : Option Addr} {b o n cap : Nat} {c c' : Nat → Value} (s : Sl w a b o n cap c) (k : Nat) (hk : k ≤ n) (hc : ∀ i, i < k → c i = c' i) : Sl w a b o k cap c' :=
  ⟨s.1.imp id (fun h => ⟨h.1, by omega, h.2.2⟩), Nat.le_trans hk s.le, s.2.2.1, fun i hi => by rw [← hc i hi]; exact s.cell (by omega)⟩
theorem lg_take {xs : List Nat} {k i : Nat} (h : i < k) : lg (xs.take k) i = lg xs i := by
  unfold lg
  rw [List.getD_eq_getElem?_getD, List.getD_eq_getElem?_getD, List.getElem?_take, if_pos h]
theorem Sl.take {w : World} {a : Option Addr} {b o n cap : Nat} {xs : List Nat} (s : Sl w a b o n cap (fun i => .int .u64 ((lg xs i : Nat) : Int))) (k : Nat) (hk : k ≤ n) :
    Sl w a b o k cap (fun i => .int .u64 ((lg (xs.take k) i : Nat) : Int)) := s.part k hk (fun i hi => by simp only [lg_take hi])

def U (n : Nat) : Value := .int .u64 (n : Int)

/-- A slice that reads as these limbs (figures of 64 bits). -/
def Nt (w : World) (v : Value) (xs : List Nat) : Prop :=
  ∃ a b o cap, v = .slice a xs.length cap ∧ Sl w a b o xs.length cap (fun i => .int .u64 ((lg xs i : Nat) : Int)) ∧ Lim B64 xs

theorem Nt.ext {w w' : World} (h : Ext w w') {v : Value} {xs : List Nat} (s : Nt w v xs) : Nt w' v xs :=
  let ⟨a, b, o, cap, hv, hs, hl⟩ := s
  ⟨a, b, o, cap, hv, hs.ext h, hl⟩
theorem Nt.lim {w : World} {v : Value} {xs : List Nat} (s : Nt w v xs) : Lim B64 xs := let ⟨_, _, _, _, _, _, hl⟩ := s; hl
theorem Nt.nil (w : World) : Nt w (.slice none 0 0) [] := ⟨none, 0, 0, 0, rfl, ⟨.inr ⟨rfl, rfl, rfl⟩, Nat.le_refl _, Nat.zero_le _, fun i hi => by cases hi⟩, Lim.nil _⟩

/-- A slice that reads as this number, its limbs without noughts at the end. -/
def Nw (w : World) (v : Value) (N : Nat) : Prop := ∃ xs, Nt w v xs ∧ Norm xs ∧ ev B64 xs = N

theorem Nw.ext {w w' : World} (h : Ext w w') {v : Value} {N : Nat} (s : Nw w v N) : Nw w' v N := let ⟨xs, h1, h2⟩ := s; ⟨xs, h1.ext h, h2⟩
theorem Nw.nil (w : World) : Nw w (.slice none 0 0) 0 := ⟨[], Nt.nil w, .inl rfl, rfl⟩
theorem Nw.mk {w : World} {v : Value} {xs : List Nat} (h : Nt w v xs) (n : Norm xs) : Nw w v (ev B64 xs) := ⟨xs, h, n, rfl⟩

theorem Nw.lens {w : World} {v : Value} {N L : Nat} (h : Nw w v N) (s : Sm L N) : ∃ xs, Nt w v xs ∧ Norm xs ∧ ev B64 xs = N ∧ xs.length ≤ L := by
  obtain ⟨xs, h1, h2, h3⟩ := h
  exact ⟨xs, h1, h2, h3, (len_le_iff (by rw [B64_eq]; omega) h1.lim h2 L).2 (h3 ▸ s)⟩

/-- its length -/
theorem Nw.len {w : World} {v : Value} {N : Nat} (h : Nw w v N) : ∃ a n cap, v = .slice a n cap ∧ (n = 0 ↔ N = 0) ∧ ∀ L, n ≤ L ↔ N < B64 ^ L := by
  obtain ⟨xs, ⟨a, b, o, cap, hv, hs, hl⟩, hn, he⟩ := h
  refine ⟨a, xs.length, cap, hv, ?_, fun L => ?_⟩
  · rw [← he]; exact (hn.zero_iff B64_pos).symm
  · rw [← he]; exact len_le_iff (by rw [B64_eq]; omega) hl hn L

/-- an empty slice that is not nil -/
theorem Nt.nil0 (w : World) (e : TypeId) : Nw (w.alloc (.cells #[] e)) (.slice (some ⟨w.heap.size, 0, none⟩) 0 0) 0 :=
  ⟨[], ⟨_, w.heap.size, 0, 0, rfl, ⟨.inl rfl, Nat.le_refl _, Nat.zero_le _, fun i hi => by cases hi⟩, Lim.nil _⟩, .inl rfl, rfl⟩

/-! ### what the call itself owns -/
theorem lg_lt {xs : List Nat} (h : Lim B64 xs) (i : Nat) : lg xs i < B64 := h.getD B64_pos i
theorem lg_eq {xs : List Nat} {i : Nat} (h : i < xs.length) : lg xs i = xs[i] := by
  unfold lg; rw [List.getD_eq_getElem?_getD, List.getElem?_eq_getElem h]; rfl

theorem Nt.of_own {w : World} {base e : Nat} {v : Value} {n : Nat} {xs : List Nat} (h : w.ownsRow base e 1 v n (xs.map U)) (hl : Lim B64 xs) : Nt w v xs := by
  obtain ⟨h1, h2⟩ := h
  have hn : xs.length = n := by simpa using h1
  subst hn
  rcases h2 with ⟨rfl, h0⟩ | ⟨g, cap, cur, rfl, hg, hh, hc, hm, hz, ht⟩
  · have := List.eq_nil_of_length_eq_zero h0
    subst this
    exact Nt.nil w
  · refine ⟨_, g, 0, cap, rfl, ⟨.inl rfl, hc, hm, fun i hi => ?_⟩, hl⟩
    have hown : w.ownsRow base e 1 (.slice (some ⟨g, 0, none⟩) xs.length cap) xs.length (xs.map U) := ⟨by simp, .inr ⟨g, cap, cur, rfl, hg, hh, hc, hm, hz, ht⟩⟩
    rw [Nat.zero_add, hown.cellAt i (by omega), List.getElem?_map, List.getElem?_eq_getElem hi]
    show some (Value.int .u64 ((xs[i] : Nat) : Int)) = some (Value.int .u64 ((lg xs i : Nat) : Int))
    rw [lg_eq hi]

/-- the slice's row, if it has one, is a new one -/
def Fr (w : World) (v : Value) : Prop := ∀ k, v.ownBlock = some k → w.heap.size ≤ k
theorem Fr.nil (w : World) : Fr w (.slice none 0 0) := fun k h => by cases h
theorem Fr.back {a b : World} {v : Value} (h : Fr b v) (hx : Ext a b) : Fr a v := fun k e => Nat.le_trans hx.size (h k e)
theorem Fr.at {w : World} {g n cap : Nat} (h : w.heap.size ≤ g) : Fr w (.slice (some ⟨g, 0, none⟩) n cap) := fun k e => by cases e; exact h

/-- a new block that holds these -/
theorem Nt.lit (w : World) (xs : List Nat) (e : TypeId) (hl : Lim B64 xs) (hx : xs.length ≤ maxLen) :
    Nt (w.alloc (.cells (xs.map U).toArray e)) (.slice (some ⟨w.heap.size, 0, none⟩) xs.length xs.length) xs := by
  refine ⟨_, w.heap.size, 0, _, rfl, ⟨.inl rfl, Nat.le_refl _, hx, fun i hi => ?_⟩, hl⟩
  rw [Nat.zero_add, World.cell?_alloc_at _ _ _ _ rfl]
  simp [List.getElem?_eq_getElem hi, lg_eq hi, U]
theorem Nt.lit1 (w : World) (x : Nat) (e : TypeId) (hx : x < B64) :
    Nt (w.alloc (.cells #[.int .u64 (x : Int)] e)) (.slice (some ⟨w.heap.size, 0, none⟩) 1 1) [x] := Nt.lit w [x] e (Lim.cons hx (Lim.nil _)) (by simp [maxLen])

/-! ### rows of limbs that the call itself owns -/
/-- the slice value v owns these limbs: a row of the call's own, or nil -/
def Own (w : World) (base e : Nat) (v : Value) (xs : List Nat) : Prop := w.ownsRow base e 1 v xs.length (xs.map U)

theorem Own.nil (w : World) (base e : Nat) : Own w base e (.slice none 0 0) [] := World.ownsRow_nil w base e 1
theorem Own.nt {w : World} {base e : Nat} {v : Value} {xs : List Nat} (h : Own w base e v xs) (hl : Lim B64 xs) : Nt w v xs := Nt.of_own h hl
theorem Own.alloc {w : World} {base e : Nat} {v : Value} {xs : List Nat} (h : Own w base e v xs) (o : Obj) : Own (w.alloc o) base e v xs := World.ownsRow.alloc h o
theorem Own.kept {w w' : World} {base e : Nat} {v : Value} {xs : List Nat} {row : Option Nat} (h : Own w base e v xs) (hg : w.grownBy w' row) (hne : v.ownBlock = none ∨ v.ownBlock ≠ row) : Own w' base e v xs := World.ownsRow.kept h hg hne
theorem Own.lt {w : World} {base e : Nat} {v : Value} {xs : List Nat} (h : Own w base e v xs) : ∀ k, v.ownBlock = some k → base ≤ k ∧ k < w.heap.size := World.ownsRow.lt h
theorem Own.ext {w w' : World} {base e : Nat} {v : Value} {xs : List Nat} (h : Own w base e v xs) (hx : Ext w w') : Own w' base e v xs := by
  refine ⟨h.1, ?_⟩
  rcases h.2 with hn | ⟨g, cap, cur, rfl, hb, hg, rest⟩
  · exact .inl hn
  · exact .inr ⟨g, cap, cur, rfl, hb, (Below.block hx g (Array.getElem?_eq_some_iff.1 hg).1).trans hg, rest⟩
theorem Own.mono {w : World} {base base' e : Nat} {v : Value} {xs : List Nat} (h : Own w base e v xs) (hb : base' ≤ base) : Own w base' e v xs := by
  refine ⟨h.1, ?_⟩
  rcases h.2 with hn | ⟨g, cap, cur, rfl, hg, rest⟩
  · exact .inl hn
  · exact .inr ⟨g, cap, cur, rfl, Nat.le_trans hb hg, rest⟩
theorem Own.lit (w : World) (xs : List Nat) (base e : Nat) (hb : base ≤ w.heap.size) (hx : xs.length ≤ maxLen) :
    Own (w.alloc (.cells (xs.map U).toArray e)) base e (.slice (some ⟨w.heap.size, 0, none⟩) xs.length xs.length) xs := by
  have := World.ownsRow_lit (base := base) (e := e) (size := 1) w (xs.map U).toArray xs.length hb hx (by simp)
  simpa [Own] using this
theorem Own.fr {w w' : World} {e : Nat} {v : Value} {xs : List Nat} (h : Own w' w.heap.size e v xs) : Fr w v := fun k hk => (h.lt k hk).1
/-- how it lies, where it is not nil -/
theorem Own.some {w : World} {base e : Nat} {v : Value} {xs : List Nat} (h : Own w base e v xs) (hn : 0 < xs.length) : ∃ g cap, v = .slice (some ⟨g, 0, none⟩) xs.length cap ∧ base ≤ g ∧ xs.length ≤ cap ∧ cap ≤ maxLen := by
  rcases h.2 with ⟨_, h0⟩ | ⟨g, cap, cur, rfl, hb, _, hc, hm, _⟩
  · omega
  · exact ⟨g, cap, rfl, hb, hc, hm⟩
theorem Own.slice {w : World} {base e : Nat} {v : Value} {xs : List Nat} (h : Own w base e v xs) : ∃ a cap, v = .slice a xs.length cap := by
  rcases h.2 with ⟨rfl, h0⟩ | ⟨g, cap, cur, rfl, _⟩
  · exact ⟨none, 0, by rw [h0]⟩
  · exact ⟨_, cap, rfl⟩

theorem Own.cellAt {w : World} {base e g cap n : Nat} {xs : List Nat} (h : Own w base e (.slice (.some ⟨g, 0, none⟩) n cap) xs) {i : Nat} (hi : i < xs.length) : w.cell? ⟨g, i, none⟩ = .some (.int .u64 ((lg xs i : Nat) : Int)) := by
  rcases h.2 with ⟨h', _⟩ | ⟨g', cap', cur, h', hr⟩
  · cases h'
  · cases h'
    have hown : w.ownsRow base e 1 (.slice (.some ⟨g, 0, none⟩) xs.length cap) xs.length (xs.map U) := ⟨by simp, .inr ⟨g, cap, cur, rfl, hr⟩⟩
    rw [hown.cellAt i (by omega), List.getElem?_map, List.getElem?_eq_getElem hi]
    show Option.some (Value.int .u64 ((xs[i] : Nat) : Int)) = .some (Value.int .u64 ((lg xs i : Nat) : Int))
    rw [lg_eq hi]
theorem Own.frozenAt {w : World} {base e g cap n : Nat} {xs : List Nat} (h : Own w base e (.slice (.some ⟨g, 0, none⟩) n cap) xs) (i : Nat) : w.frozen? ⟨g, i, none⟩ = false := by
  rcases h.2 with ⟨h', _⟩ | ⟨g', cap', cur, h', hr⟩
  · cases h'
  · cases h'
    have hown : w.ownsRow base e 1 (.slice (.some ⟨g, 0, none⟩) xs.length cap) xs.length (xs.map U) := ⟨by simp, .inr ⟨g, cap, cur, rfl, hr⟩⟩
    exact hown.frozenAt i
/-- a store into a row of the call's own -/
theorem Own.stored {w : World} {base e g cap n : Nat} {xs : List Nat} (h : Own w base e (.slice (.some ⟨g, 0, none⟩) n cap) xs) (j y : Nat) {Y : Int} (hy : Y = (y : Int)) :
    Own (w.setCell ⟨g, j, none⟩ (.int .u64 Y)) base e (.slice (.some ⟨g, 0, none⟩) n cap) (xs.set j y) := by
  subst hy
  rcases h.2 with ⟨h', _⟩ | ⟨g', cap', cur, h', hr⟩
  · cases h'
  · cases h'
    have hown : w.ownsRow base e 1 (.slice (.some ⟨g, 0, none⟩) xs.length cap) xs.length (xs.map U) := ⟨by simp, .inr ⟨g, cap, cur, rfl, hr⟩⟩
    have h2 := (hown.stored j (.int .u64 (y : Int))).1
    unfold Own
    rw [List.length_set, List.map_set]
    exact h2
theorem Own.head {w : World} {base e g cap n : Nat} {xs : List Nat} (h : Own w base e (.slice (.some ⟨g, 0, none⟩) n cap) xs) : base ≤ g ∧ g < w.heap.size := h.lt g rfl

/-- a store into another row -/
theorem Nt.set_other {w : World} {v : Value} {xs : List Nat} (h : Nt w v xs) {p : Addr} (hne : v.ownBlock ≠ .some p.block) (u : Value) : Nt (w.setCell p u) v xs := by
  obtain ⟨a, b, o, cap, rfl, hs, hl⟩ := h
  refine ⟨a, b, o, cap, rfl, ⟨hs.1, hs.2.1, hs.2.2.1, fun i hi => ?_⟩, hl⟩
  obtain rfl := hs.addr (by omega)
  rw [World.cell?_of_block (w := w) (Below.heap_setCell w p u b (fun e => hne (by simp [Value.ownBlock, e])))]
  exact hs.cell hi
theorem Nw.set_other {w : World} {v : Value} {N : Nat} (h : Nw w v N) {p : Addr} (hne : v.ownBlock ≠ .some p.block) (u : Value) : Nw (w.setCell p u) v N :=
  let ⟨xs, h1, h2⟩ := h; ⟨xs, h1.set_other hne u, h2⟩
theorem Fr.ne {w : World} {v : Value} (h : Fr w v) {g : Nat} (hg : g < w.heap.size) : v.ownBlock ≠ .some g := fun e => by have := h g e; omega

/-- the element type's row of the table -/
def InfoU (P : Program) (e : TypeId) : Prop := (P.info? e).map (fun i => (i.zero, i.size, i.bytes)) = some (some (.int .u64 0), 1, 8)

theorem wrap_u64 (x : Nat) (h : x < B64) : IntKind.u64.wrap (x : Int) = (x : Int) := by
  rw [IntKind.wrap_u64]; rw [B64_eq] at h; omega
theorem wadd (x y : Nat) (h : x + y < B64) : IntKind.u64.wrap ((x : Int) + (y : Int)) = ((x + y : Nat) : Int) := by
  rw [← Int.natCast_add, wrap_u64 _ h]
theorem wmul (x y : Nat) (h : x * y < B64) : IntKind.u64.wrap ((x : Int) * (y : Int)) = ((x * y : Nat) : Int) := by
  rw [← Int.natCast_mul, wrap_u64 _ h]
theorem wmul32 (x : Nat) (h : x * B32 < B64) : IntKind.u64.wrap ((x : Int) * 4294967296) = ((x * B32 : Nat) : Int) := wmul x B32 h
theorem w_shl (x b : Nat) : IntKind.u64.wrap ((x : Int) * 2 ^ b) = ((x * 2 ^ b % B64 : Nat) : Int) := by
  rw [IntKind.wrap_u64]
  have e : (x : Int) * 2 ^ b = ((x * 2 ^ b : Nat) : Int) := by rw [Int.natCast_mul, Int.natCast_pow]; rfl
  rw [e]; rfl
theorem w_shl_or {x c b : Nat} (hc : c < 2 ^ b) (hb : b ≤ 64) (hs : x * 2 ^ b % B64 = (x % 2 ^ (64 - b)) * 2 ^ b) :
    bits .or .u64 (IntKind.u64.wrap ((x : Int) * 2 ^ b)) (c : Int) = ((x * 2 ^ b % B64 + c : Nat) : Int) := by
  have h1 : x * 2 ^ b % B64 < B64 := Nat.mod_lt _ B64_pos
  have h2 : c < B64 := Nat.lt_of_lt_of_le hc (by rw [B64_two]; exact Nat.pow_le_pow_right (by omega) hb)
  rw [w_shl, bits_or_u64_nat _ _ (by rw [B64_eq] at h1; exact h1) (by rw [B64_eq] at h2; exact h2), hs]
  have := Nat.shiftLeft_add_eq_or_of_lt hc (x % 2 ^ (64 - b))
  rw [Nat.shiftLeft_eq] at this
  rw [this]
theorem w_shr (x b : Nat) : (x : Int) / 2 ^ b = ((x / 2 ^ b : Nat) : Int) := by
  rw [Int.natCast_ediv, Int.natCast_pow]; rfl
theorem tmod32 (x : Nat) : ((x : Int)).tmod 4294967296 = ((x % B32 : Nat) : Int) := by
  rw [Int.tmod_eq_emod_of_nonneg (by omega)]; rfl
theorem div32 (x : Nat) : ((x : Int)) / 4294967296 = ((x / B32 : Nat) : Int) := rfl
theorem wdiv32 (x : Nat) (h : x < B64) : IntKind.u64.wrap ((x : Int) / 4294967296) = ((x / B32 : Nat) : Int) := by
  rw [div32, wrap_u64 _ (Nat.lt_of_le_of_lt (Nat.div_le_self _ _) h)]
theorem U_one (xs : List Nat) : ∀ u ∈ xs.map U, u.oneCell' = true := by
  intro u hu
  obtain ⟨_, _, rfl⟩ := List.mem_map.1 hu
  rfl

section
variable {P : Program} {t e : TypeId} (ht : P.underlying t = .some (.slice e)) (hi : InfoU P e)
include ht hi

/-- 'append(s, y)': s the call's own -/
theorem append_one {w : World} {ops : Array Oper} {rest : List Oper} {o : Oper} {a : Act} {Q : Exit → Act → World → Prop} (hgd : o.guard = none) (s x : Operand)
    (ho : o.op = .call { callee := .builtin .append, args := #[s, x], argTypes := #[t, t] }) (base : Nat) (v : Value) (xs : List Nat) (y : Nat) (Y : Int)
    (hs : a.eval s = v) (hx : a.eval x = .slice (.some ⟨w.heap.size, 0, none⟩) 1 1) (hown : Own w base e v xs) (hy : Y = (y : Int)) (hlen : xs.length ≤ 1099511627776) (hb : base ≤ w.heap.size)
    (h : ∀ v' w', Own w' base e v' (xs ++ [y]) → (w.alloc (.cells #[.int .u64 Y] e)).grownBy w' v.ownBlock → wpList P ops Q rest (a.put o.dst v') w') :
    wpList P ops Q (o :: rest) a (w.alloc (.cells #[.int .u64 Y] e)) := by
  obtain ⟨i0, h1, h2, h3, h4⟩ := info_parts hi
  subst hy
  refine wpList_append_own _ hgd s x t ho base e i0 (.int .u64 0) 1 8 ht h1 h2 h3 h4 rfl (by decide) v xs.length (xs.map U) hs (World.ownsRow.alloc hown _) ⟨w.heap.size, 0, none⟩ 1 1 [.int .u64 (y : Int)] hx rfl ?_ ?_ (by simp [maxLen]; omega) (by omega) (by simp; omega) ?_
  · intro j u hj
    match j, hj with
    | 0, hj => simp at hj; subst hj; simp [Addr.add]
  · intro u hu; simp at hu; subst hu; rfl
  · intro v' w' ho' hg' _
    refine h v' w' ?_ hg'
    have : (xs.map U ++ [.int .u64 (y : Int)]) = (xs ++ [y]).map U := by simp [U]
    unfold Own
    rw [← this, List.length_append]
    exact ho'

/-- 'append(s, y1, y2 ..)': s the call's own -/
theorem append_new {w : World} {ops : Array Oper} {rest : List Oper} {o : Oper} {a : Act} {Q : Exit → Act → World → Prop} (hgd : o.guard = none) (s x : Operand)
    (ho : o.op = .call { callee := .builtin .append, args := #[s, x], argTypes := #[t, t] }) (base : Nat) (v : Value) (xs ys : List Nat) (m : Nat) (C : Array Value)
    (hs : a.eval s = v) (hx : a.eval x = .slice (.some ⟨w.heap.size, 0, none⟩) m m) (hown : Own w base e v xs) (hm : m = ys.length) (hC : C.toList = ys.map U) (hlen : xs.length + ys.length ≤ 1099511627776) (hb : base ≤ w.heap.size)
    (h : ∀ v' w', Own w' base e v' (xs ++ ys) → (w.alloc (.cells C e)).grownBy w' v.ownBlock → wpList P ops Q rest (a.put o.dst v') w') :
    wpList P ops Q (o :: rest) a (w.alloc (.cells C e)) := by
  obtain ⟨i0, h1, h2, h3, h4⟩ := info_parts hi
  subst hm
  refine wpList_append_own _ hgd s x t ho base e i0 (.int .u64 0) 1 8 ht h1 h2 h3 h4 rfl (by decide) v xs.length (xs.map U) hs (World.ownsRow.alloc hown _) ⟨w.heap.size, 0, none⟩ ys.length ys.length (ys.map U) hx (by simp) ?_ (U_one ys) (by simp [maxLen]; omega) (by omega) (by simp; omega) ?_
  · intro j u hj
    rw [Addr.add_lit, Nat.zero_add, World.cell?_alloc_at _ _ _ _ rfl, ← Array.getElem?_toList, hC]
    exact hj
  · intro v' w' ho' hg' _
    refine h v' w' ?_ hg'
    unfold Own
    rw [List.map_append, List.length_append]
    exact ho'

/-- the same within a region that draws its order -/
theorem step_new {w : World} {ops : Array Oper} {o : Oper} {a : Act} {K : Act → World → Prop} {Q : Exit → Act → World → Prop} {E : Prop} (hgd : o.guard = none) (s x : Operand)
    (ho : o.op = .call { callee := .builtin .append, args := #[s, x], argTypes := #[t, t] }) (base : Nat) (v : Value) (xs ys : List Nat) (m g : Nat) (C : Array Value)
    (hs : a.eval s = v) (hx : a.eval x = .slice (.some ⟨g, 0, none⟩) m m) (hown : Own w base e v xs) (hblk : w.heap[g]? = .some (.cells C e)) (hm : m = ys.length) (hm0 : 0 < m) (hC : C.toList = ys.map U) (hlen : xs.length + ys.length ≤ 1099511627776) (hb : base ≤ w.heap.size)
    (h : ∀ g cap w', Own w' base e (.slice (.some ⟨g, 0, none⟩) (xs.length + m) cap) (xs ++ ys) → w.grownBy w' v.ownBlock → (v.ownBlock = .some g ∨ g = w.heap.size) → g < w'.heap.size → K (a.put o.dst (.slice (.some ⟨g, 0, none⟩) (xs.length + m) cap)) w') :
    if Region.wanted o (yielded ops a.tmps) = true then Oper.wp P o a w K Q else E := by
  obtain ⟨i0, h1, h2, h3, h4⟩ := info_parts hi
  subst hm
  refine step_append_lies _ hgd s x t ho base e i0 (.int .u64 0) 1 8 ht h1 h2 h3 h4 rfl (by decide) v xs.length (xs.map U) hs hown ⟨g, 0, none⟩ ys.length ys.length (ys.map U) hx (by simp) ?_ (U_one ys) hm0 (by simp [maxLen]; omega) (by omega) hb w.heap.size rfl ?_
  · intro j u hj
    rw [Addr.add_lit, Nat.zero_add, cell_of_row w g j C e (0, 0) hblk, ← Array.getElem?_toList, hC]
    exact hj
  · intro g' cap w' ho' hg' hat hlt
    refine h g' cap w' ?_ hg' hat hlt
    unfold Own
    rw [List.map_append, List.length_append]
    exact ho'

/-- 'make([]T, l, n)' -/
theorem make_part {w : World} {ops : Array Oper} {rest : List Oper} {o : Oper} {a : Act} {Q : Exit → Act → World → Prop} (hgd : o.guard = none) (x c : Operand)
    (ho : o.op = .makeSlice t x c) (base l n : Nat) (X C : Int) (hl : a.eval x = .int .i64 X) (hc : a.eval c = .int .i64 C) (hL : X = (l : Int)) (hC : C = (n : Int)) (hln : l ≤ n) (hn : n ≤ 1099511627776) (hb : base ≤ w.heap.size)
    (h : ∀ w', Own w' base e (.slice (.some ⟨w.heap.size, 0, none⟩) l n) (List.replicate l 0) → w.grownBy w' none → wpList P ops Q rest (a.put o.dst (.slice (.some ⟨w.heap.size, 0, none⟩) l n)) w') :
    wpList P ops Q (o :: rest) a w := by
  obtain ⟨i0, h1, h2, h3, h4⟩ := info_parts hi
  subst hL
  subst hC
  refine wpList_plain hgd fun K hK' => ?_
  have hr := run_make (P := P) w t e i0 (.int .u64 0) ht h1 h2 .i64 .i64 (l : Int) (n : Int) (by omega) (by omega) (by rw [h4]; omega) (by omega)
  simp only [Int.toNat_natCast, h3, Nat.mul_one] at hr
  have ho' : Own (w.alloc (.cells (madeCells (Value.int .u64 0).cells n) e)) base e (.slice (.some ⟨w.heap.size, 0, none⟩) l n) (List.replicate l 0) := by
    refine ⟨by simp, .inr ⟨w.heap.size, n, _, by simp, hb, heap_alloc_new w _, by simpa using hln, by simp [maxLen]; omega, by rw [size_madeCells, Nat.mul_one], ?_⟩⟩
    rw [show (madeCells (Value.int .u64 0).cells n).toList = List.replicate n (U 0) from toList_madeCells_one _ _, List.map_replicate, List.length_replicate, Nat.mul_one, List.take_replicate, Nat.min_eq_left hln]
  unfold Oper.wp
  simp [execOp, ho, hl, hc, hr, Result.andThen]
  exact hK' _ _ (h _ ho' (World.grownBy_alloc w _ none))

/-- 'make([]T, n)' -/
theorem make_full {w : World} {ops : Array Oper} {rest : List Oper} {o : Oper} {a : Act} {Q : Exit → Act → World → Prop} (hgd : o.guard = none) (l c : Operand)
    (ho : o.op = .makeSlice t l c) (base n : Nat) (L C : Int) (hl : a.eval l = .int .i64 L) (hc : a.eval c = .int .i64 C) (hL : L = (n : Int)) (hC : C = (n : Int)) (hn : n ≤ 1099511627776) (hb : base ≤ w.heap.size)
    (h : ∀ w', Own w' base e (.slice (.some ⟨w.heap.size, 0, none⟩) n n) (List.replicate n 0) → w.grownBy w' none → wpList P ops Q rest (a.put o.dst (.slice (.some ⟨w.heap.size, 0, none⟩) n n)) w') :
    wpList P ops Q (o :: rest) a w := by
  obtain ⟨i0, h1, h2, h3, h4⟩ := info_parts hi
  refine wpList_make_full w hgd l c t ho base e i0 (.int .u64 0) 1 ht h1 h2 h3 .i64 .i64 L C n hl hc hL hC (by rw [h4]; omega) (by simp [maxLen]; omega) hb ?_
  intro w' ho' hg'
  refine h w' ?_ hg'
  unfold Own
  rw [List.length_replicate, List.map_replicate]
  have e1 : (madeCells (Value.int .u64 0).cells (n * 1)).toList = List.replicate n (U 0) := by
    rw [Nat.mul_one]; exact toList_madeCells_one _ _
  rw [← e1]
  exact ho'

/-- 'append(s, l...)': s the call's own, l whatever reads -/
theorem append_all {w : World} {ops : Array Oper} {rest : List Oper} {o : Oper} {a : Act} {Q : Exit → Act → World → Prop} (hgd : o.guard = none) (s x : Operand)
    (ho : o.op = .call { callee := .builtin .append, args := #[s, x], argTypes := #[t, t] }) (base : Nat) (v : Value) (xs ys : List Nat) (ao : Option Addr) (b off c m : Nat)
    (hs : a.eval s = v) (hx : a.eval x = .slice ao m c) (hm : m = ys.length) (hown : Own w base e v xs) (hsrc : Sl w ao b off m c (fun i => .int .u64 ((lg ys i : Nat) : Int))) (hlen : xs.length + ys.length ≤ 1099511627776) (hb : base ≤ w.heap.size)
    (h : ∀ v' w', Own w' base e v' (xs ++ ys) → w.grownBy w' v.ownBlock → wpList P ops Q rest (a.put o.dst v') w') :
    wpList P ops Q (o :: rest) a w := by
  obtain ⟨i0, h1, h2, h3, h4⟩ := info_parts hi
  subst hm
  rcases hsrc.1 with rfl | ⟨rfl, h0, hc0⟩
  · refine wpList_append_own _ hgd s x t ho base e i0 (.int .u64 0) 1 8 ht h1 h2 h3 h4 rfl (by decide) v xs.length (xs.map U) hs hown ⟨b, off, none⟩ ys.length c (ys.map U) hx (by simp) ?_ (U_one ys) (by simp [maxLen]; omega) (by omega) hb ?_
    · intro j u hj
      have hlt : j < ys.length := by have := (List.getElem?_eq_some_iff.1 hj).1; simpa using this
      rw [List.getElem?_map, List.getElem?_eq_getElem hlt] at hj
      simp only [Option.map_some, Option.some.injEq] at hj
      subst hj
      rw [Addr.add_lit, hsrc.cell hlt, lg_eq hlt]
      rfl
    · intro v' w' ho' hg' _
      refine h v' w' ?_ hg'
      unfold Own
      rw [List.map_append, List.length_append]
      exact ho'
  · have hy : ys = [] := List.eq_nil_of_length_eq_zero h0
    subst hy
    subst hc0
    refine wpList_append_own_none hgd s x t ho base e i0 1 ht h1 v xs.length (xs.map U) hs hown hx ?_
    exact h v w (by simpa using hown) (World.grownBy.refl _ _)
end

end Go.Rt
