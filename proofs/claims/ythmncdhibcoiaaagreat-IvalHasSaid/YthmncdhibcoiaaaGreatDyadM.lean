/-
  Plain laws on rounding to a grid: between, in order, of sums, of a finer grid.
-/
import Derived.Test.YthmncdhibcoiaaaGreatGI

namespace Go.Rt

theorem floor_sgn (x : Rat) (K : Nat) : (x * P2 K).floor = sgn (decide (x.num < 0)) (if (decide (x.num < 0) && decide (0 < x.num.natAbs * 2 ^ K % x.den)) = true then x.num.natAbs * 2 ^ K / x.den + 1 else x.num.natAbs * 2 ^ K / x.den) := by
  by_cases h : x.num < 0
  · rw [floor_neg h, decide_eq_true h]
    unfold sgn
    rw [if_pos rfl]
    by_cases h0 : x.num.natAbs * 2 ^ K % x.den = 0
    · rw [if_pos h0, if_neg (by rw [h0]; simp)]; rfl
    · rw [if_neg h0, if_pos (by rw [decide_eq_true (Nat.pos_of_ne_zero h0)]; rfl)]
  · rw [floor_pos h, decide_eq_false h]
    unfold sgn
    rw [if_neg (by simp), if_neg (by simp)]

theorem ceil_sgn (x : Rat) (K : Nat) : (x * P2 K).ceil = sgn (decide (x.num < 0)) (if (!decide (x.num < 0) && decide (0 < x.num.natAbs * 2 ^ K % x.den)) = true then x.num.natAbs * 2 ^ K / x.den + 1 else x.num.natAbs * 2 ^ K / x.den) := by
  rw [ceil_eq]
  by_cases hz : x.num = 0
  · have hx : x = 0 := Rat.num_eq_zero.1 hz
    subst hx
    rw [Rat.neg_zero, Rat.zero_mul]
    simp [sgn]
    rfl
  · by_cases h : x.num < 0
    · have h2 : ¬ (-x).num < 0 := by rw [Rat.neg_num]; omega
      rw [floor_pos h2, decide_eq_true h, Rat.neg_num, Int.natAbs_neg, Rat.neg_den]
      unfold sgn
      rw [if_pos rfl, if_neg (by simp)]
    · have h2 : (-x).num < 0 := by rw [Rat.neg_num]; omega
      rw [floor_neg h2, decide_eq_false h, Rat.neg_num, Int.natAbs_neg, Rat.neg_den, Int.neg_neg]
      by_cases h0 : x.num.natAbs * 2 ^ K % x.den = 0
      · simp [sgn, h0]
      · have h1 := Nat.pos_of_ne_zero h0
        simp [sgn, h0, h1]

end Go.Rt
