/-
  Plain laws on rounding to a grid: between, in order, of sums, of a finer grid.
-/
import Derived.Test.YtkmilnnbmamknaaGI

namespace Go.Rt

theorem P2_ne (K : Nat) : P2 K ≠ 0 := by have := P2_pos K; grind

theorem le_unscale {x y : Rat} (K : Nat) (h : x * P2 K ≤ y * P2 K) : x ≤ y := Rat.le_of_mul_le_mul_right h (P2_pos K)

theorem back_scale (z : Int) (K : Nat) : (z : Rat) / P2 K * P2 K = z := Rat.div_mul_cancel (P2_ne K)

theorem unscale {x y : Rat} (K : Nat) (h : x * P2 K = y * P2 K) : x = y := Rat.le_antisymm (le_unscale K (by rw [h]; exact Rat.le_refl)) (le_unscale K (by rw [h]; exact Rat.le_refl))

theorem floor_whole (n : Int) : (n : Rat).floor = n := Rat.floor_intCast n

theorem floor_ceil (y : Rat) : (y.ceil = y.floor ∧ (y.floor : Rat) = y) ∨ (y.ceil = y.floor + 1 ∧ (y.floor : Rat) < y) := by
  have h1 := floor_le' y
  have h2 := lt_floor' y
  have h4 : y ≤ (y.ceil : Rat) := Rat.le_ceil
  have h5 : y.floor ≤ y.ceil := Rat.intCast_le_intCast.1 (Rat.le_trans h1 h4)
  have h3 : y.ceil ≤ y.floor + 1 := Rat.ceil_le_iff.2 (by rw [Rat.intCast_add]; exact Rat.le_of_lt (by simpa using h2))
  by_cases e : y.ceil = y.floor
  · exact Or.inl ⟨e, by rw [e] at h4; exact Rat.le_antisymm h1 h4⟩
  · refine Or.inr ⟨by omega, Rat.lt_of_le_of_ne h1 (fun h => e ?_)⟩
    have : y.ceil ≤ y.floor := Rat.ceil_le_iff.2 (by rw [h]; exact Rat.le_refl)
    omega

theorem near_end (y : Rat) : nearR y = y.floor ∨ nearR y = y.ceil := by
  rcases floor_ceil y with ⟨h, e⟩ | ⟨h, -⟩
  · left
    conv => lhs; rw [← e]
    exact near_int _
  · rw [h]; unfold nearR; split
    · exact Or.inl rfl
    · exact Or.inr rfl

theorem low_le (x : Rat) (K : Nat) : ((x * P2 K).floor : Rat) / P2 K ≤ x := le_unscale K (by rw [back_scale]; exact floor_le' _)

theorem le_high (x : Rat) (K : Nat) : x ≤ ((x * P2 K).ceil : Rat) / P2 K := le_unscale K (by rw [back_scale]; exact Rat.le_ceil)

theorem on_iff (x : Rat) (K : Nat) : ((x * P2 K).floor : Rat) / P2 K = x ↔ ((x * P2 K).ceil : Rat) / P2 K = x := by
  have e : ∀ z : Int, (z : Rat) / P2 K = x ↔ (z : Rat) = x * P2 K := fun z => ⟨fun h => by rw [← h, back_scale], fun h => unscale K (by rw [back_scale, h])⟩
  rw [e, e]
  rcases floor_ceil (x * P2 K) with ⟨h, he⟩ | ⟨h, hl⟩
  · rw [h]
  · constructor
    · intro h2; exact absurd h2 (by grind)
    · intro h2
      have h3 : (x * P2 K).floor = (x * P2 K).ceil := by
        conv => lhs; rw [← h2]
        exact floor_whole _
      omega

theorem side_by {x : Rat} {K : Nat} (h : ((x * P2 K).floor : Rat) / P2 K ≠ x) : ((x * P2 K).ceil : Rat) / P2 K - ((x * P2 K).floor : Rat) / P2 K = ((1 : Int) : Rat) / P2 K := by
  rcases floor_ceil (x * P2 K) with ⟨-, he⟩ | ⟨h2, -⟩
  · exact absurd (unscale K (by rw [back_scale, he])) h
  · rw [h2, Rat.intCast_add]
    have := P2_ne K
    grind

theorem near_half (x : Rat) (K : Nat) : ((nearR (x * P2 K) : Rat) / P2 K - x).abs + ((nearR (x * P2 K) : Rat) / P2 K - x).abs ≤ ((1 : Int) : Rat) / P2 K ∧ (((nearR (x * P2 K) : Rat) / P2 K - x).abs + ((nearR (x * P2 K) : Rat) / P2 K - x).abs = ((1 : Int) : Rat) / P2 K → nearR (x * P2 K) % 2 = 0) := by
  obtain ⟨h1, h2, h3⟩ := near_is (x * P2 K)
  have hp := P2_pos K
  have e1 : ((nearR (x * P2 K) : Rat) / P2 K - x) * P2 K = nearR (x * P2 K) - x * P2 K := by rw [Rat.sub_eq_add_neg, Rat.add_mul, Rat.neg_mul, back_scale, ← Rat.sub_eq_add_neg]
  have e2 : ((1 : Int) : Rat) / P2 K * P2 K = 1 := back_scale 1 K
  generalize nearR (x * P2 K) = n at *
  generalize hd : (n : Rat) / P2 K - x = d at *
  generalize ((1 : Int) : Rat) / P2 K = s at *
  have ha : d.abs = d ∨ d.abs = -d := by unfold Rat.abs; split <;> simp
  generalize x * P2 K = y at *
  generalize P2 K = p at *
  constructor
  · refine Rat.le_of_mul_le_mul_right (c := p) ?_ hp
    rcases ha with ha | ha <;> rw [ha] <;> grind
  · intro h
    rcases h3 with h3 | h3
    · exact h3
    · exfalso
      have h4 : (d.abs + d.abs) * p = s * p := by rw [h]
      rcases ha with ha | ha <;> rw [ha] at h4 <;> grind

theorem floor_sgn (x : Rat) (K : Nat) : (x * P2 K).floor = sgn (decide (x.num < 0)) (if (decide (x.num < 0) && decide (0 < x.num.natAbs * 2 ^ K % x.den)) = true then x.num.natAbs * 2 ^ K / x.den + 1 else x.num.natAbs * 2 ^ K / x.den) := by
  by_cases h : x.num < 0
  · rw [floor_neg h, decide_eq_true h]
    unfold sgn
    rw [if_pos rfl]
    by_cases h0 : x.num.natAbs * 2 ^ K % x.den = 0
    · rw [if_pos h0, if_neg (by rw [h0]; simp)]; rfl
    · rw [if_neg h0, if_pos (by rw [decide_eq_true (Nat.pos_of_ne_zero h0)]; rfl)]
  · rw [floor_pos h, decide_eq_false h]
    unfold sgn
    rw [if_neg (by simp), if_neg (by simp)]

theorem ceil_sgn (x : Rat) (K : Nat) : (x * P2 K).ceil = sgn (decide (x.num < 0)) (if (!decide (x.num < 0) && decide (0 < x.num.natAbs * 2 ^ K % x.den)) = true then x.num.natAbs * 2 ^ K / x.den + 1 else x.num.natAbs * 2 ^ K / x.den) := by
  rw [ceil_eq]
  by_cases hz : x.num = 0
  · have hx : x = 0 := Rat.num_eq_zero.1 hz
    subst hx
    rw [Rat.neg_zero, Rat.zero_mul]
    simp [sgn]
    rfl
  · by_cases h : x.num < 0
    · have h2 : ¬ (-x).num < 0 := by rw [Rat.neg_num]; omega
      rw [floor_pos h2, decide_eq_true h, Rat.neg_num, Int.natAbs_neg, Rat.neg_den]
      unfold sgn
      rw [if_pos rfl, if_neg (by simp)]
    · have h2 : (-x).num < 0 := by rw [Rat.neg_num]; omega
      rw [floor_neg h2, decide_eq_false h, Rat.neg_num, Int.natAbs_neg, Rat.neg_den, Int.neg_neg]
      by_cases h0 : x.num.natAbs * 2 ^ K % x.den = 0
      · simp [sgn, h0]
      · have h1 := Nat.pos_of_ne_zero h0
        simp [sgn, h0, h1]

end Go.Rt
