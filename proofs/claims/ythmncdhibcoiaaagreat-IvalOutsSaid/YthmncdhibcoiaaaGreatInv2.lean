/-
  A region with two stores into boxes of its own: what holds of all operations' values together is told along.
-/
import Derived.Test.YthmncdhibcoiaaaGreatGK

namespace Go.Rt

open Go Go.RowKit Go.Proofs

section

variable {P : Program} {Q : Exit → Act → World → Prop} {md : Region.Mode} {l : List Oper} {a0 : Act} {S : (Nat → Value) → World → Prop} {ps : List PS} {A : (Nat → Value) → Act}

/-- nothing of what the others left is lost -/
def Keep2 (ps : List PS) (i : Nat) (vs : Nat → Value) (w w' : World) : Prop := ∀ k, k ≠ i → (psAt ps k).holds k vs w → (psAt ps k).holds k vs w'

def Owes2 (P : Program) (md : Region.Mode) (l : List Oper) (Q : Exit → Act → World → Prop) (a0 : Act) (S : (Nat → Value) → World → Prop) (ps : List PS) (i : Nat) : Prop :=
  ∀ o, l[i]? = some o → ∀ (vs : Nat → Value) (w : World), S vs w → (∀ e ∈ o.after, Region.binds md e = true → (psAt ps e.on).holds e.on vs w) → Olds md l a0 i vs →
    wpOp P l.toArray Q i (fun a' w' => ∃ v, a' = (putAll l 0 vs a0).put o.dst v ∧ S (upd vs i v) w' ∧ Keep2 ps i vs w w' ∧ (psAt ps i).holds i (upd vs i v) w') (putAll l 0 vs a0) w

def OwesAll2 (P : Program) (md : Region.Mode) (l : List Oper) (Q : Exit → Act → World → Prop) (a0 : Act) (S : (Nat → Value) → World → Prop) (ps : List PS) : List Oper → Nat → Prop
  | [], _ => True
  | _ :: os, k => Owes2 P md l Q a0 S ps k ∧ OwesAll2 P md l Q a0 S ps os (k + 1)

theorem OwesAll2.at : ∀ (os : List Oper) (k : Nat), OwesAll2 P md l Q a0 S ps os k → ∀ i, i < os.length → Owes2 P md l Q a0 S ps (k + i)
  | [], _, _, i, hi => by simp at hi
  | _ :: _, _, h, 0, _ => h.1
  | _ :: os, k, h, i + 1, hi => by have := OwesAll2.at os (k + 1) h.2 i (by simpa using hi); rw [show k + (i + 1) = k + 1 + i by omega]; exact this

def OwesAt2 (P : Program) (md : Region.Mode) (l : List Oper) (Q : Exit → Act → World → Prop) (a0 : Act) (A : (Nat → Value) → Act) (S : (Nat → Value) → World → Prop) (ps : List PS) (i : Nat) : Prop :=
  ∀ o, l[i]? = some o → ∀ (vs : Nat → Value) (w : World), S vs w → (∀ e ∈ o.after, Region.binds md e = true → (psAt ps e.on).holds e.on vs w) → Olds md l a0 i vs →
    wpOp P l.toArray Q i (fun a' w' => ∃ v, a' = (A vs).put o.dst v ∧ S (upd vs i v) w' ∧ Keep2 ps i vs w w' ∧ (psAt ps i).holds i (upd vs i v) w') (A vs) w

def OwesAllAt2 (P : Program) (md : Region.Mode) (l : List Oper) (Q : Exit → Act → World → Prop) (a0 : Act) (A : (Nat → Value) → Act) (S : (Nat → Value) → World → Prop) (ps : List PS) : List Oper → Nat → Prop
  | [], _ => True
  | _ :: os, k => OwesAt2 P md l Q a0 A S ps k ∧ OwesAllAt2 P md l Q a0 A S ps os (k + 1)

theorem OwesAllAt2.back (hA : ∀ vs, putAll l 0 vs a0 = A vs) : ∀ (os : List Oper) (k : Nat), OwesAllAt2 P md l Q a0 A S ps os k → OwesAll2 P md l Q a0 S ps os k
  | [], _, _ => trivial
  | _ :: os, k, h => ⟨fun o ho vs w hS hp hx => by rw [hA]; exact h.1 o ho vs w hS hp hx, OwesAllAt2.back hA os (k + 1) h.2⟩

/-! several new blocks, apart from one another -/

/-- the block that a pointer or a slice points into -/
def blk : Value → Option Nat
  | .pointer (some p) => some p.block
  | .slice (some p) _ _ => some p.block
  | _ => none

/-- the blocks that these operations gave, as far as they did, are there, no two the same -/
def Many (ms : List Nat) (vs : Nat → Value) (w : World) : Prop :=
  (∀ m ∈ ms, ∀ g, blk (vs m) = some g → g < w.heap.size) ∧ ∀ m ∈ ms, ∀ m' ∈ ms, m ≠ m' → ∀ g, blk (vs m) = some g → blk (vs m') ≠ some g

theorem Many.other {ms : List Nat} {k : Nat} {vs : Nat → Value} {w w' : World} (h : Many ms vs w) (hk : k ∉ ms) (v : Value) (hs : w.heap.size ≤ w'.heap.size) : Many ms (upd vs k v) w' := by
  have e : ∀ m ∈ ms, upd vs k v m = vs m := fun m hm => upd_other (show m ≠ k from fun e => hk (e ▸ hm)) v
  exact ⟨fun m hm g hg => Nat.lt_of_lt_of_le (h.1 m hm g (by rw [← e m hm]; exact hg)) hs, fun m hm m' hm' hne g hg => by
    rw [e m' hm']
    exact h.2 m hm m' hm' hne g (by rw [← e m hm]; exact hg)⟩

theorem Many.new {ms : List Nat} {k : Nat} {vs : Nat → Value} {w : World} (h : Many ms vs w) (o : Obj) {v : Value} (hv : blk v = some w.heap.size) : Many ms (upd vs k v) (w.alloc o) := by
  have hs : w.heap.size < (w.alloc o).heap.size := (Array.getElem?_eq_some_iff.1 (heap_last w o)).1
  refine ⟨fun m hm g hg => ?_, fun m hm m' hm' hne g hg hg' => ?_⟩
  · by_cases e : m = k
    · subst e
      rw [upd_same, hv] at hg
      cases hg
      exact hs
    · rw [upd_other e] at hg
      exact Nat.lt_trans (h.1 m hm g hg) hs
  · by_cases e : m = k
    · subst e
      rw [upd_same, hv] at hg
      cases hg
      rw [upd_other (Ne.symm hne)] at hg'
      exact Nat.lt_irrefl _ (h.1 m' hm' _ hg')
    · rw [upd_other e] at hg
      by_cases e' : m' = k
      · subst e'
        rw [upd_same, hv] at hg'
        cases hg'
        exact Nat.lt_irrefl _ (h.1 m hm _ hg)
      · rw [upd_other e'] at hg'
        exact h.2 m hm m' hm' hne g hg hg'

/-- what a post hangs on: its own value alone; new blocks; a new box that operation m gave; a box that was there -/
inductive Tag
  | any
  | fresh
  | new (m : Nat)
  | old (g : Nat)
  | last

def Tag.ok (B : Nat) (t : Tag) (p : PS) : Prop :=
  match t with
  | .any => match p with | .one q => Good q | _ => False
  | .fresh => (∀ k vs w w', Ext w w' → p.holds k vs w → p.holds k vs w') ∧ ∀ k vs w w' g, Wr g w w' → g < B → p.holds k vs w → p.holds k vs w'
  | .new m => (∀ k vs w w', Ext w w' → p.holds k vs w → p.holds k vs w') ∧ ∀ k vs w w' g, Wr g w w' → (g < B ∨ blk (vs m) ≠ some g) → p.holds k vs w → p.holds k vs w'
  | .old g0 => (∀ k vs w w', Ext w w' → p.holds k vs w → p.holds k vs w') ∧ ∀ k vs w w' g, Wr g w w' → g0 ≠ g → p.holds k vs w → p.holds k vs w'
  | .last => ∀ k vs w w', Ext w w' → p.holds k vs w → p.holds k vs w'

theorem Tag.ok.ext {B : Nat} {t : Tag} {p : PS} (h : t.ok B p) : ∀ k vs w w', Ext w w' → p.holds k vs w → p.holds k vs w' := by
  cases t with
  | any =>
    cases p with
    | one q => exact fun k vs w w' hE hp => Good.ext h (vs k) w w' hE hp
    | two j q => exact absurd h id
    | three j k q => exact absurd h id
    | own q => exact absurd h id
  | fresh => exact h.1
  | new m => exact h.1
  | old g => exact h.1
  | last => exact h

end

section

variable {P : Program} {Q : Exit → Act → World → Prop} {md : Region.Mode} {l : List Oper} {a0 : Act} {S : World → Prop} {ps : List PS} {A : (Nat → Value) → Act} {B : Nat} {ms : List Nat} {ts : List Tag}

end

end Go.Rt
