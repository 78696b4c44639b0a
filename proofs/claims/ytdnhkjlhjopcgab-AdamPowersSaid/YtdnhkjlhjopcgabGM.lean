/-
  nat.Sub: a difference, limb by limb.
  The program's integers: made, Neg, Mul, Of, Add, Cmp, Int.
-/
import Derived.Test.YtdnhkjlhjopcgabGF
import Derived.Test.YtdnhkjlhjopcgabSqz
import Derived.Test.YtdnhkjlhjopcgabGL
namespace Go.Rt
open Go.RowKit Go.Shelf Go.Proofs
attribute [local go_sem] Oper.semAt_some

theorem sub_step64 {b : Nat} {l x y : List Nat} {k c s d : Nat} (hl : l.length = k) (he : ev b l + ev b (y.take k) = ev b (x.take k) + b ^ k * c) (hs : s + y.getD k 0 + c = x.getD k 0 + b * d) :
    ev b (l ++ [s]) + ev b (y.take (k + 1)) = ev b (x.take (k + 1)) + b ^ (k + 1) * d := by
  rw [ev_snoc, hl, ev_take_succ', ev_take_succ']
  generalize x.getD k 0 = p at *
  generalize y.getD k 0 = q at *
  have h2 : b ^ k * (s + q + c) = b ^ k * p + b ^ (k + 1) * d := by rw [hs, Nat.mul_add, Nat.pow_succ, Nat.mul_assoc]
  rw [Nat.mul_add, Nat.mul_add] at h2
  omega

/-- k limbs being over -/
def subI (w : World) (B : Nat) (tN tU tF : TypeId) (at' : Nat) (va vb : Value) (xs ys : List Nat) (k : Nat) (W : World) : Prop :=
  Ext w W ∧ Boxed W B tN va ∧ Boxed W (B + 1) tN vb ∧ Boxed W (B + 1 + 1) tF (.func (.func at') #[] #[]) ∧
  ∃ (vo : Value) (l : List Nat) (c : Nat), Boxed W w.heap.size tN vo ∧ Boxed W (w.heap.size + 1) tU (.int .u64 (c : Int)) ∧ Own W (w.heap.size + 1 + 1) tU vo l ∧
    Hid (Lim B64 l ∧ l.length = k ∧ c ≤ 1 ∧ ev B64 l + ev B64 (ys.take k) = ev B64 (xs.take k) + B64 ^ k * c)

theorem subI_turns {w : World} {B : Nat} {tN tU tF : TypeId} {at' : Nat} {va vb : Value} {xs ys : List Nat} (D : Nat) (hD : w.heap.size ≤ D) (k : Nat) : Turns D (subI w B tN tU tF at' va vb xs ys k) :=
  (Turns.ext hD).and ((Turns.box _ _ _ _).and ((Turns.box _ _ _ _).and ((Turns.box _ _ _ _).and (Turns.ex fun _ => Turns.ex fun _ => Turns.ex fun _ => (Turns.box _ _ _ _).and ((Turns.box _ _ _ _).and (Turns.own.and (Turns.pure _ _)))))))

theorem subI_alloc {w : World} {B : Nat} {tN tU tF : TypeId} {at' : Nat} {va vb : Value} {xs ys : List Nat} {k : Nat} {W : World} (h : subI w B tN tU tF at' va vb xs ys k W) (o : Obj) : subI w B tN tU tF at' va vb xs ys k (W.alloc o) :=
  ⟨h.1.alloc o, h.2.1.alloc o, h.2.2.1.alloc o, h.2.2.2.1.alloc o, let ⟨vo, l, c, p1, p2, p3, p4⟩ := h.2.2.2.2; ⟨vo, l, c, p1.alloc o, p2.alloc o, p3.alloc o, p4⟩⟩

end Go.Rt

namespace Go.Rt
open Go.RowKit Go.Proofs

theorem sgn_of {n : Int} : sgn (decide (n < 0)) n.natAbs = n := by
 unfold sgn
 by_cases h : n < 0
 ·rw [decide_eq_true h]; simp; omega
 ·rw [decide_eq_false h]; simp; omega

theorem sgn_add_diff {x y : Int} {b c : Bool} (h1 : b = decide (x < 0)) (h2 : c = decide (y < 0)) (hb : b ≠ c) (hle : y.natAbs ≤ x.natAbs) : sgn b (x.natAbs - y.natAbs) = x + y := by
 unfold sgn
 cases b
 ·have a1 := of_decide_eq_false h1.symm
  cases c
  ·exact absurd rfl hb
  ·have a2 := of_decide_eq_true h2.symm
   simp
   omega
 ·have a1 := of_decide_eq_true h1.symm
  cases c
  ·have a2 := of_decide_eq_false h2.symm
   simp
   omega
  ·exact absurd rfl hb

end Go.Rt
