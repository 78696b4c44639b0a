/-
  The laws of chapter 05 (fractions): Back, Between, Order.
-/
import Derived.Test.YthmncdhibcoiaaaGreatLaw05

namespace Go.Rt

open Go.RowKit Go.Proofs

theorem cmpR_swap (x y : Rat) : cmpR y x = -cmpR x y := by
  unfold cmpR
  by_cases h1 : x < y
  · by_cases h2 : y < x
    · grind
    · simp [h1, h2]
  · by_cases h2 : y < x
    · simp [h1, h2]
    · simp [h1, h2]

theorem cmpR_le {x y : Rat} : cmpR x y ≤ 0 ↔ x ≤ y := by
  unfold cmpR
  by_cases h1 : x < y
  · rw [if_pos h1]; constructor; intro; grind; intro; omega
  · rw [if_neg h1]
    by_cases h2 : y < x
    · rw [if_pos h2]; constructor; intro h; omega; intro h; grind
    · rw [if_neg h2]; constructor; intro; grind; intro; omega

end Go.Rt
