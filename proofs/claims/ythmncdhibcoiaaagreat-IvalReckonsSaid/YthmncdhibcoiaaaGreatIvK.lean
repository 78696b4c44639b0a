/-
  Intervals: what lies in sums, products and quotients; rounding outward keeps it.
-/
import Derived.Test.YthmncdhibcoiaaaGreatIvI
import Derived.Test.YthmncdhibcoiaaaGreatIvD
import Derived.Test.YthmncdhibcoiaaaGreatLaw07d

namespace Go.Rt

open Go Go.RowKit Go.Proofs

theorem hasS_iff {p : Rat × Rat} {x : Rat} : hasS p x = true ↔ p.1 ≤ x ∧ x ≤ p.2 := by
  unfold hasS
  rw [Bool.and_eq_true, decide_eq_true_iff, decide_eq_true_iff]

theorem mul_inv1 (x y : Rat) : x * (1 / y) = x / y := by rw [Rat.div_def, Rat.div_def, Rat.one_mul]

theorem divS_mul (p q : Rat × Rat) : mulS p (1 / q.2, 1 / q.1) = divS p q := by
  have a : ∀ i, i ≤ 3 → ∃ j, j ≤ 3 ∧ atQ (mulL p (1 / q.2, 1 / q.1)) i = atQ (divL p q) j := fun i hi => by
    match i, hi with
    | 0, _ => exact ⟨1, by omega, mul_inv1 _ _⟩
    | 1, _ => exact ⟨0, by omega, mul_inv1 _ _⟩
    | 2, _ => exact ⟨3, by omega, mul_inv1 _ _⟩
    | 3, _ => exact ⟨2, by omega, mul_inv1 _ _⟩
  have b : ∀ i, i ≤ 3 → ∃ j, j ≤ 3 ∧ atQ (divL p q) i = atQ (mulL p (1 / q.2, 1 / q.1)) j := fun i hi => by
    match i, hi with
    | 0, _ => exact ⟨1, by omega, (mul_inv1 _ _).symm⟩
    | 1, _ => exact ⟨0, by omega, (mul_inv1 _ _).symm⟩
    | 2, _ => exact ⟨3, by omega, (mul_inv1 _ _).symm⟩
    | 3, _ => exact ⟨2, by omega, (mul_inv1 _ _).symm⟩
  refine Prod.ext (Rat.le_antisymm ?_ ?_) (Rat.le_antisymm ?_ ?_)
  · exact le_minQ fun i hi => by obtain ⟨j, hj, e⟩ := b i hi; rw [e]; exact minQ_le j hj
  · exact le_minQ fun i hi => by obtain ⟨j, hj, e⟩ := a i hi; rw [e]; exact minQ_le j hj
  · exact maxQ_le fun i hi => by obtain ⟨j, hj, e⟩ := a i hi; rw [e]; exact le_maxQ j hj
  · exact maxQ_le fun i hi => by obtain ⟨j, hj, e⟩ := b i hi; rw [e]; exact le_maxQ j hj

theorem no_ends {q : Rat × Rat} (h : hasS q 0 = false) {y : Rat} (h2 : q.1 ≤ y ∧ y ≤ q.2) : y ≠ 0 := fun e => by
  subst e
  rw [hasS_iff.2 h2] at h
  cases h

end Go.Rt
