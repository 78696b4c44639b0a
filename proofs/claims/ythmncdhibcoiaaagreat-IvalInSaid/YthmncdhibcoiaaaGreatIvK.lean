/-
  Intervals: what lies in sums, products and quotients; rounding outward keeps it.
-/
import Derived.Test.YthmncdhibcoiaaaGreatIvI
import Derived.Test.YthmncdhibcoiaaaGreatIvD
import Derived.Test.YthmncdhibcoiaaaGreatLaw07d
namespace Go.Rt
open Go Go.RowKit Go.Proofs

theorem hasS_iff {p : Rat × Rat} {x : Rat} : hasS p x = true ↔ p.1 ≤ x ∧ x ≤ p.2 := by
  unfold hasS
  rw [Bool.and_eq_true, decide_eq_true_iff, decide_eq_true_iff]

theorem inS_iff {p q : Rat × Rat} : inS p q = true ↔ (q.1 ≤ p.1 ∧ p.1 ≤ q.2) ∧ (q.1 ≤ p.2 ∧ p.2 ≤ q.2) := by
  unfold inS
  rw [Bool.and_eq_true, hasS_iff, hasS_iff]

theorem mul_ends {a b x : Rat} (y : Rat) (h1 : a ≤ x) (h2 : x ≤ b) : (a * y ≤ x * y ∨ b * y ≤ x * y) ∧ (x * y ≤ a * y ∨ x * y ≤ b * y) := by
  by_cases hy : 0 ≤ y
  · exact ⟨.inl (Rat.mul_le_mul_of_nonneg_right h1 hy), .inr (Rat.mul_le_mul_of_nonneg_right h2 hy)⟩
  · have hy' : 0 ≤ -y := by rw [Rat.not_le] at hy; grind
    have k1 := Rat.mul_le_mul_of_nonneg_right h1 hy'
    have k2 := Rat.mul_le_mul_of_nonneg_right h2 hy'
    rw [Rat.mul_neg, Rat.mul_neg] at k1 k2
    exact ⟨.inr (by grind), .inl (by grind)⟩

theorem mulS_has {p q : Rat × Rat} {x y : Rat} (h1 : p.1 ≤ x ∧ x ≤ p.2) (h2 : q.1 ≤ y ∧ y ≤ q.2) : (mulS p q).1 ≤ x * y ∧ x * y ≤ (mulS p q).2 := by
  have k0 := minQ_le (l := mulL p q) (n := 3) 0 (by omega)
  have k1 := minQ_le (l := mulL p q) (n := 3) 1 (by omega)
  have k2 := minQ_le (l := mulL p q) (n := 3) 2 (by omega)
  have k3 := minQ_le (l := mulL p q) (n := 3) 3 (by omega)
  have m0 := le_maxQ (l := mulL p q) (n := 3) 0 (by omega)
  have m1 := le_maxQ (l := mulL p q) (n := 3) 1 (by omega)
  have m2 := le_maxQ (l := mulL p q) (n := 3) 2 (by omega)
  have m3 := le_maxQ (l := mulL p q) (n := 3) 3 (by omega)
  have e0 : atQ (mulL p q) 0 = p.1 * q.1 := rfl
  have e1 : atQ (mulL p q) 1 = p.1 * q.2 := rfl
  have e2 : atQ (mulL p q) 2 = p.2 * q.1 := rfl
  have e3 : atQ (mulL p q) 3 = p.2 * q.2 := rfl
  rw [e0] at k0 m0
  rw [e1] at k1 m1
  rw [e2] at k2 m2
  rw [e3] at k3 m3
  have a := mul_ends y h1.1 h1.2
  have b := mul_ends p.1 h2.1 h2.2
  have c := mul_ends p.2 h2.1 h2.2
  rw [Rat.mul_comm q.1, Rat.mul_comm q.2, Rat.mul_comm y] at b c
  have hx1 : x * y = x * y := rfl
  unfold mulS
  constructor
  · rcases a.1 with a | a
    · rcases b.1 with b | b
      · exact Rat.le_trans k0 (Rat.le_trans b a)
      · exact Rat.le_trans k1 (Rat.le_trans b a)
    · rcases c.1 with b | b
      · exact Rat.le_trans k2 (Rat.le_trans b a)
      · exact Rat.le_trans k3 (Rat.le_trans b a)
  · rcases a.2 with a | a
    · rcases b.2 with b | b
      · exact Rat.le_trans a (Rat.le_trans b m0)
      · exact Rat.le_trans a (Rat.le_trans b m1)
    · rcases c.2 with b | b
      · exact Rat.le_trans a (Rat.le_trans b m2)
      · exact Rat.le_trans a (Rat.le_trans b m3)

theorem mulS_right {p q : Rat × Rat} : (mulS p q).1 ≤ (mulS p q).2 := Rat.le_trans (minQ_le 0 (by omega)) (le_maxQ 0 (by omega))

theorem mulS_in {p q p' q' : Rat × Rat} (h1 : p'.1 ≤ p.1 ∧ p.1 ≤ p'.2) (h2 : p'.1 ≤ p.2 ∧ p.2 ≤ p'.2) (h3 : q'.1 ≤ q.1 ∧ q.1 ≤ q'.2) (h4 : q'.1 ≤ q.2 ∧ q.2 ≤ q'.2) : inS (mulS p q) (mulS p' q') = true := by
  have k : ∀ i, i ≤ 3 → (mulS p' q').1 ≤ atQ (mulL p q) i ∧ atQ (mulL p q) i ≤ (mulS p' q').2 := fun i hi => by
    match i, hi with
    | 0, _ => exact mulS_has h1 h3
    | 1, _ => exact mulS_has h1 h4
    | 2, _ => exact mulS_has h2 h3
    | 3, _ => exact mulS_has h2 h4
  rw [inS_iff]
  have a : (mulS p' q').1 ≤ (mulS p q).1 := le_minQ fun i hi => (k i hi).1
  have b : (mulS p q).2 ≤ (mulS p' q').2 := maxQ_le fun i hi => (k i hi).2
  have c : (mulS p q).1 ≤ (mulS p q).2 := mulS_right
  exact ⟨⟨a, Rat.le_trans c b⟩, Rat.le_trans a c, b⟩

/-- a part of the way from one number to another one -/
theorem of_in {a b : Rat} (h : a ≤ b) (n : Nat) (hn : n ≤ 255) : a ≤ a + (b - a) * ((n : Rat) / 255) ∧ a + (b - a) * ((n : Rat) / 255) ≤ b := by
  have h0 : 0 ≤ b - a := by grind
  have f0 : (0 : Rat) ≤ (n : Rat) := by exact_mod_cast Nat.zero_le n
  have f1 : (n : Rat) ≤ 255 := by exact_mod_cast hn
  have e : (n : Rat) / 255 * 255 = n := Rat.div_mul_cancel (by decide)
  obtain ⟨t, ht⟩ : ∃ t, t = (n : Rat) / 255 := ⟨_, rfl⟩
  rw [← ht] at e ⊢
  have t0 : 0 ≤ t := by
    rw [← Rat.not_lt]
    intro h'
    have := Rat.mul_lt_mul_of_pos_right h' (c := 255) (by decide)
    grind
  have t1 : t ≤ 1 := by
    rw [← Rat.not_lt]
    intro h'
    have := Rat.mul_lt_mul_of_pos_right h' (c := 255) (by decide)
    grind
  have k0 := Rat.mul_le_mul_of_nonneg_left t0 h0
  have k1 := Rat.mul_le_mul_of_nonneg_left t1 h0
  rw [Rat.mul_zero] at k0
  rw [Rat.mul_one] at k1
  constructor <;> grind

theorem of_mono {a b : Rat} (h : a ≤ b) {n m : Nat} (hn : n ≤ m) : a + (b - a) * ((n : Rat) / 255) ≤ a + (b - a) * ((m : Rat) / 255) := by
  have h0 : 0 ≤ b - a := by grind
  have f1 : (n : Rat) ≤ (m : Rat) := by exact_mod_cast hn
  have e1 : (n : Rat) / 255 * 255 = n := Rat.div_mul_cancel (by decide)
  have e2 : (m : Rat) / 255 * 255 = m := Rat.div_mul_cancel (by decide)
  have t1 : (n : Rat) / 255 ≤ (m : Rat) / 255 := Rat.le_of_mul_le_mul_right (by rw [e1, e2]; exact f1) (show (0 : Rat) < 255 by decide)
  have k1 := Rat.mul_le_mul_of_nonneg_left t1 h0
  grind

theorem le_div_scale {x y : Rat} {K : Nat} (h : x * P2 K ≤ y * P2 K) : x ≤ y := Rat.le_of_mul_le_mul_right h (P2_gt K)

theorem div_scale (z : Rat) (K : Nat) : z / P2 K * P2 K = z := Rat.div_mul_cancel (fun e => by have := P2_gt K; rw [e] at this; exact absurd this (by decide))

theorem outS_in {p : Rat × Rat} (K : Nat) : (outS p K).1 ≤ p.1 ∧ p.2 ≤ (outS p K).2 := by
  constructor
  · refine le_div_scale (K := K) ?_
    show ((p.1 * P2 K).floor : Rat) / P2 K * P2 K ≤ _
    rw [div_scale]
    exact Rat.floor_le _
  · refine le_div_scale (K := K) ?_
    show _ ≤ ((p.2 * P2 K).ceil : Rat) / P2 K * P2 K
    rw [div_scale]
    exact Rat.le_ceil

theorem outS_mono {p q : Rat × Rat} (K : Nat) (h1 : q.1 ≤ p.1) (h2 : p.2 ≤ q.2) : (outS q K).1 ≤ (outS p K).1 ∧ (outS p K).2 ≤ (outS q K).2 := by
  have hp := Rat.le_of_lt (P2_gt K)
  constructor
  · refine le_div_scale (K := K) ?_
    show ((q.1 * P2 K).floor : Rat) / P2 K * P2 K ≤ ((p.1 * P2 K).floor : Rat) / P2 K * P2 K
    rw [div_scale, div_scale]
    exact Rat.intCast_le_intCast.2 (Rat.le_floor_iff.2 (Rat.le_trans (Rat.floor_le _) (Rat.mul_le_mul_of_nonneg_right h1 hp)))
  · refine le_div_scale (K := K) ?_
    show ((p.2 * P2 K).ceil : Rat) / P2 K * P2 K ≤ ((q.2 * P2 K).ceil : Rat) / P2 K * P2 K
    rw [div_scale, div_scale]
    exact Rat.intCast_le_intCast.2 (Rat.ceil_le_iff.2 (Rat.le_trans (Rat.mul_le_mul_of_nonneg_right h2 hp) (Rat.le_ceil)))

theorem mul_inv1 (x y : Rat) : x * (1 / y) = x / y := by rw [Rat.div_def, Rat.div_def, Rat.one_mul]

theorem divS_mul (p q : Rat × Rat) : mulS p (1 / q.2, 1 / q.1) = divS p q := by
  have a : ∀ i, i ≤ 3 → ∃ j, j ≤ 3 ∧ atQ (mulL p (1 / q.2, 1 / q.1)) i = atQ (divL p q) j := fun i hi => by
    match i, hi with
    | 0, _ => exact ⟨1, by omega, mul_inv1 _ _⟩
    | 1, _ => exact ⟨0, by omega, mul_inv1 _ _⟩
    | 2, _ => exact ⟨3, by omega, mul_inv1 _ _⟩
    | 3, _ => exact ⟨2, by omega, mul_inv1 _ _⟩
  have b : ∀ i, i ≤ 3 → ∃ j, j ≤ 3 ∧ atQ (divL p q) i = atQ (mulL p (1 / q.2, 1 / q.1)) j := fun i hi => by
    match i, hi with
    | 0, _ => exact ⟨1, by omega, (mul_inv1 _ _).symm⟩
    | 1, _ => exact ⟨0, by omega, (mul_inv1 _ _).symm⟩
    | 2, _ => exact ⟨3, by omega, (mul_inv1 _ _).symm⟩
    | 3, _ => exact ⟨2, by omega, (mul_inv1 _ _).symm⟩
  refine Prod.ext (Rat.le_antisymm ?_ ?_) (Rat.le_antisymm ?_ ?_)
  · exact le_minQ fun i hi => by obtain ⟨j, hj, e⟩ := b i hi; rw [e]; exact minQ_le j hj
  · exact le_minQ fun i hi => by obtain ⟨j, hj, e⟩ := a i hi; rw [e]; exact minQ_le j hj
  · exact maxQ_le fun i hi => by obtain ⟨j, hj, e⟩ := a i hi; rw [e]; exact le_maxQ j hj
  · exact maxQ_le fun i hi => by obtain ⟨j, hj, e⟩ := b i hi; rw [e]; exact le_maxQ j hj

theorem inv_le {c y : Rat} (h : c ≤ y) (hs : 0 < c ∨ y < 0) : 1 / y ≤ 1 / c := by
  have hc : c ≠ 0 := fun e => by subst e; rcases hs with h' | h' <;> grind
  have hy : y ≠ 0 := fun e => by subst e; rcases hs with h' | h' <;> grind
  have hcy : 0 < c * y := by
    rcases hs with h' | h'
    · exact Rat.mul_pos h' (by grind)
    · have := Rat.mul_pos (a := -c) (b := -y) (by grind) (by grind)
      grind
  refine Rat.le_of_mul_le_mul_right ?_ hcy
  have e1 : 1 / y * (c * y) = c := by rw [Rat.mul_comm c y, ← Rat.mul_assoc, Rat.div_mul_cancel hy, Rat.one_mul]
  have e2 : 1 / c * (c * y) = y := by rw [← Rat.mul_assoc, Rat.div_mul_cancel hc, Rat.one_mul]
  rw [e1, e2]
  exact h

theorem no_nought {q : Rat × Rat} (h : hasS q 0 = false) : 0 < q.1 ∨ q.2 < 0 := by
  by_cases h1 : q.1 ≤ 0
  · refine .inr ?_
    rw [← Rat.not_le]
    intro h2
    rw [hasS_iff.2 ⟨h1, h2⟩] at h
    cases h
  · exact .inl (Rat.not_le.1 h1)

theorem divS_has {p q : Rat × Rat} {x y : Rat} (h1 : p.1 ≤ x ∧ x ≤ p.2) (h2 : q.1 ≤ y ∧ y ≤ q.2) (hn : hasS q 0 = false) : (divS p q).1 ≤ x / y ∧ x / y ≤ (divS p q).2 := by
  rw [← divS_mul, ← mul_inv1 x y]
  have hs := no_nought hn
  exact mulS_has h1 ⟨inv_le h2.2 (by rcases hs with h | h; exact .inl (by have := h2.1; grind); exact .inr h), inv_le h2.1 (by rcases hs with h | h; exact .inl h; exact .inr (by have := h2.2; grind))⟩

theorem divS_right {p q : Rat × Rat} : (divS p q).1 ≤ (divS p q).2 := Rat.le_trans (minQ_le 0 (by omega)) (le_maxQ 0 (by omega))

theorem no_ends {q : Rat × Rat} (h : hasS q 0 = false) {y : Rat} (h2 : q.1 ≤ y ∧ y ≤ q.2) : y ≠ 0 := fun e => by
  subst e
  rw [hasS_iff.2 h2] at h
  cases h
end Go.Rt
