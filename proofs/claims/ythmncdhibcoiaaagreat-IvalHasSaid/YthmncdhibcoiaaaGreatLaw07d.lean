/-
 Chapter 7: sums and products of intervals hang on no order.
-/
import Derived.Test.YthmncdhibcoiaaaGreatSqz
import Derived.Test.YthmncdhibcoiaaaGreatIvF

namespace Go.Rt

open Go Go.RowKit Go.Proofs

theorem minQ_le {l : List Rat} {n : Nat} : ∀ i, i ≤ n → minQ l n ≤ atQ l i := by
 induction n with
 | zero =>
  intro i hi
  obtain rfl : i = 0 := by omega
  exact Rat.le_refl
 | succ n ih =>
  intro i hi
  unfold minQ
  rcases Nat.lt_or_ge i (n + 1) with h | h
  ·have h1 := ih i (by omega)
   split
   ·rename_i h2; exact Rat.le_trans (Rat.le_of_lt h2) h1
   ·exact h1
  ·obtain rfl : i = n + 1 := by omega
   split
   ·exact Rat.le_refl
   ·rename_i h2; exact Rat.not_lt.1 h2

theorem le_minQ {l : List Rat} {x : Rat} {n : Nat} (h : ∀ i, i ≤ n → x ≤ atQ l i) : x ≤ minQ l n := by
 induction n with
 | zero => exact h 0 (Nat.le_refl _)
 | succ n ih =>
  unfold minQ
  split
  ·exact h _ (Nat.le_refl _)
  ·exact ih fun i hi => h i (by omega)

theorem le_maxQ {l : List Rat} {n : Nat} : ∀ i, i ≤ n → atQ l i ≤ maxQ l n := by
 induction n with
 | zero =>
  intro i hi
  obtain rfl : i = 0 := by omega
  exact Rat.le_refl
 | succ n ih =>
  intro i hi
  unfold maxQ
  rcases Nat.lt_or_ge i (n + 1) with h | h
  ·have h1 := ih i (by omega)
   split
   ·rename_i h2; exact Rat.le_trans h1 (Rat.le_of_lt h2)
   ·exact h1
  ·obtain rfl : i = n + 1 := by omega
   split
   ·exact Rat.le_refl
   ·rename_i h2; exact Rat.not_lt.1 h2

theorem maxQ_le {l : List Rat} {x : Rat} {n : Nat} (h : ∀ i, i ≤ n → atQ l i ≤ x) : maxQ l n ≤ x := by
 induction n with
 | zero => exact h 0 (Nat.le_refl _)
 | succ n ih =>
  unfold maxQ
  split
  ·exact h _ (Nat.le_refl _)
  ·exact ih fun i hi => h i (by omega)

end Go.Rt
