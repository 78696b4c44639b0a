/-
  The laws of chapter 05 (fractions): Back, Between, Order.
-/
import Derived.Test.YtpenekgnhnfebaaLaw05

namespace Go.Rt

open Go.RowKit Go.Proofs

theorem num_pos_iff {x : Rat} : 0 < x.num ↔ 0 < x := by
  rw [Rat.lt_iff]
  simp

theorem cmpR_self (x : Rat) : cmpR x x = 0 := by unfold cmpR; rw [if_neg (by grind), if_neg (by grind)]

theorem cmpR_eq_zero {x y : Rat} : cmpR x y = 0 ↔ x = y := by
  unfold cmpR
  constructor
  · intro h
    split at h
    · cases h
    · split at h
      · cases h
      · grind
  · intro h
    rw [if_neg (by grind), if_neg (by grind)]

theorem cmpR_bd (x y : Rat) : -1 ≤ cmpR x y ∧ cmpR x y ≤ 1 := by unfold cmpR; split; omega; split <;> omega

theorem cmpR_swap (x y : Rat) : cmpR y x = -cmpR x y := by
  unfold cmpR
  by_cases h1 : x < y
  · by_cases h2 : y < x
    · grind
    · simp [h1, h2]
  · by_cases h2 : y < x
    · simp [h1, h2]
    · simp [h1, h2]

theorem cmpR_le {x y : Rat} : cmpR x y ≤ 0 ↔ x ≤ y := by
  unfold cmpR
  by_cases h1 : x < y
  · rw [if_pos h1]; constructor; intro; grind; intro; omega
  · rw [if_neg h1]
    by_cases h2 : y < x
    · rw [if_pos h2]; constructor; intro h; omega; intro h; grind
    · rw [if_neg h2]; constructor; intro; grind; intro; omega

theorem cmpR_congr {x y u v : Rat} (h1 : x < y ↔ u < v) (h2 : y < x ↔ v < u) : cmpR x y = cmpR u v := by
  unfold cmpR
  by_cases a : x < y
  · rw [if_pos a, if_pos (h1.1 a)]
  · rw [if_neg a, if_neg (fun h => a (h1.2 h))]
    by_cases b : y < x
    · rw [if_pos b, if_pos (h2.1 b)]
    · rw [if_neg b, if_neg (fun h => b (h2.2 h))]

theorem cmpR_add (x y z : Rat) : cmpR (x + z) (y + z) = cmpR x y := cmpR_congr (by constructor <;> intro <;> grind) (by constructor <;> intro <;> grind)

theorem cmpR_sub (x y : Rat) : cmpR (x - y) ((0 : Int) : Rat) = cmpR x y := by
  rw [show ((0 : Int) : Rat) = 0 from rfl]
  exact cmpR_congr (by constructor <;> intro <;> grind) (by constructor <;> intro <;> grind)

theorem two_ne : ((2 : Int) : Rat) ≠ 0 := by decide

end Go.Rt
