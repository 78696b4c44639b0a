/-
  Plain mathematics of roots of natural numbers.
-/
import Derived.Test.YtbfojmhigfeahaaMathF
namespace Go.Rt

/-- r is the root of a, down -/
def IsRt (r a k : Nat) : Prop := r ^ k ≤ a ∧ a < (r + 1) ^ k

theorem pow_lt_iff {a b k : Nat} (hk : 1 ≤ k) : a ^ k < b ^ k ↔ a < b := by
  constructor
  · intro h
    rcases Nat.lt_or_ge a b with h1 | h1
    · exact h1
    · have := Nat.pow_le_pow_left h1 k; omega
  · intro h; exact Nat.pow_lt_pow_left h (by omega)
theorem pow_le_iff {a b k : Nat} (hk : 1 ≤ k) : a ^ k ≤ b ^ k ↔ a ≤ b := by
  have := pow_lt_iff (a := b) (b := a) hk
  omega
theorem IsRt.unique {r s a k : Nat} (hk : 1 ≤ k) (h : IsRt r a k) (h' : IsRt s a k) : r = s := by
  have h1 := (pow_lt_iff hk).1 (Nat.lt_of_le_of_lt h.1 h'.2)
  have h2 := (pow_lt_iff hk).1 (Nat.lt_of_le_of_lt h'.1 h.2)
  omega
theorem IsRt.exists (a : Nat) {k : Nat} (hk : 1 ≤ k) : ∃ r, IsRt r a k := by
  induction a with
  | zero => exact ⟨0, by rw [Nat.zero_pow (by omega)]; exact Nat.le_refl _, by rw [Nat.zero_add, Nat.one_pow]; omega⟩
  | succ a ih =>
    obtain ⟨r, h1, h2⟩ := ih
    rcases Nat.lt_or_ge (a + 1) ((r + 1) ^ k) with h | h
    · exact ⟨r, by omega, h⟩
    · have h3 : (r + 1) ^ k < (r + 1 + 1) ^ k := (pow_lt_iff hk).2 (by omega)
      exact ⟨r + 1, h, by omega⟩
/-- the root of a, down -/
noncomputable def rt (a k : Nat) : Nat := Classical.epsilon fun r => IsRt r a k
theorem rt_is (a : Nat) {k : Nat} (hk : 1 ≤ k) : IsRt (rt a k) a k := Classical.epsilon_spec (p := fun r => IsRt r a k) (IsRt.exists a hk)
theorem rt_eq {r a k : Nat} (hk : 1 ≤ k) (h : IsRt r a k) : rt a k = r := (rt_is a hk).unique hk h
theorem rt_zero {k : Nat} (hk : 1 ≤ k) : rt 0 k = 0 := rt_eq hk ⟨by rw [Nat.zero_pow (by omega)]; exact Nat.le_refl _, by rw [Nat.zero_add, Nat.one_pow]; omega⟩
theorem rt_le_iff {a k s : Nat} (hk : 1 ≤ k) : rt a k ≤ s ↔ a < (s + 1) ^ k := by
  obtain ⟨h1, h2⟩ := rt_is a hk
  constructor
  · intro h
    exact Nat.lt_of_lt_of_le h2 (Nat.pow_le_pow_left (by omega) k)
  · intro h
    have := (pow_lt_iff hk).1 (Nat.lt_of_le_of_lt h1 h)
    omega
theorem le_rt_iff {a k s : Nat} (hk : 1 ≤ k) : s ≤ rt a k ↔ s ^ k ≤ a := by
  rcases Nat.eq_zero_or_pos s with rfl | hs
  · rw [Nat.zero_pow (by omega)]; simp
  · have := rt_le_iff (a := a) (s := s - 1) hk
    rw [show s - 1 + 1 = s from by omega] at this
    omega
theorem rt_pos {a k : Nat} (hk : 1 ≤ k) (ha : 0 < a) : 0 < rt a k := (le_rt_iff hk).2 (by rw [Nat.one_pow]; exact ha)
theorem rt_le {a k : Nat} (hk : 1 ≤ k) : rt a k ≤ a := by
  have h := (rt_is a hk).1
  rcases Nat.eq_zero_or_pos (rt a k) with h0 | h0
  · omega
  · have : (rt a k) ^ 1 ≤ (rt a k) ^ k := Nat.pow_le_pow_right h0 hk
    rw [Nat.pow_one] at this; omega
/-- the root, up -/
noncomputable def rtUp (a k : Nat) : Nat := if (rt a k) ^ k = a then rt a k else rt a k + 1

/-- the mean of powers: what Newton's step rests on -/
theorem amgm (r x : Int) (hr : 0 ≤ r) (hx : 0 ≤ x) : ∀ m : Nat, (m + 1 : Int) * r * x ^ m ≤ r ^ (m + 1) + m * x ^ (m + 1)
  | 0 => by simp [Int.pow_succ]
  | m + 1 => by
    have ih := amgm r x hr hx m
    have h1 := Int.mul_le_mul_of_nonneg_left ih hr
    have h2 : 0 ≤ (m + 1 : Int) * x ^ m * ((x - r) * (x - r)) := by
      have hs : 0 ≤ (x - r) * (x - r) := by
        rcases Int.le_total x r with h | h
        · have := Int.mul_nonneg (show 0 ≤ r - x by omega) (show 0 ≤ r - x by omega)
          rwa [show (x - r) * (x - r) = (r - x) * (r - x) from by grind]
        · exact Int.mul_nonneg (by omega) (by omega)
      exact Int.mul_nonneg (Int.mul_nonneg (by omega) (Int.pow_nonneg hx)) hs
    have e1 : r ^ (m + 1 + 1) = r * r ^ (m + 1) := by rw [Int.pow_succ, Int.mul_comm]
    have e2 : x ^ (m + 1 + 1) = x ^ m * x * x := by rw [Int.pow_succ, Int.pow_succ]
    have e3 : x ^ (m + 1) = x ^ m * x := Int.pow_succ ..
    rw [e1, e2]
    rw [e3] at h1 ⊢
    generalize x ^ m = X at *
    generalize r ^ (m + 1) = R at *
    push_cast
    grind

/-- Newton's step does not fall below the root -/
theorem newton_ge {a k x : Nat} (hk : 1 ≤ k) (hx : 0 < x) : rt a k ≤ ((k - 1) * x + a / x ^ (k - 1)) / k := by
  obtain ⟨m, rfl⟩ : ∃ m, k = m + 1 := ⟨k - 1, by omega⟩
  rw [Nat.add_sub_cancel]
  obtain ⟨h1, -⟩ := rt_is a hk
  generalize rt a (m + 1) = r at *
  rw [Nat.le_div_iff_mul_le (by omega)]
  have hP : 0 < x ^ m := Nat.pow_pos hx
  rcases Nat.lt_or_ge (r * (m + 1)) (m * x) with hlt | hge
  · exact Nat.le_trans (Nat.le_of_lt hlt) (Nat.le_add_right _ _)
  · have h2 : r * (m + 1) - m * x ≤ a / x ^ m := by
      rw [Nat.le_div_iff_mul_le hP]
      refine Nat.le_trans ?_ h1
      have h3 := amgm r x (by omega) (by omega) m
      have e : ((r * (m + 1) - m * x : Nat) : Int) = (r : Int) * (m + 1) - m * x := by rw [Int.natCast_sub hge]; simp
      have h4 : (((r * (m + 1) - m * x) * x ^ m : Nat) : Int) ≤ ((r ^ (m + 1) : Nat) : Int) := by
        rw [Int.natCast_mul, e, Int.natCast_pow, Int.natCast_pow]
        rw [Int.pow_succ x m] at h3
        generalize (x : Int) ^ m = X at *
        generalize (r : Int) ^ (m + 1) = R at *
        grind
      exact Int.ofNat_le.1 h4
    generalize a / x ^ m = i at *
    omega
/-- above the root it falls -/
theorem newton_lt {a k x : Nat} (hk : 1 ≤ k) (hx : rt a k < x) : ((k - 1) * x + a / x ^ (k - 1)) / k < x := by
  obtain ⟨m, rfl⟩ : ∃ m, k = m + 1 := ⟨k - 1, by omega⟩
  rw [Nat.add_sub_cancel]
  obtain ⟨-, h2⟩ := rt_is a hk
  have hP : 0 < x ^ m := Nat.pow_pos (by omega)
  have h3 : a < x ^ (m + 1) := Nat.lt_of_lt_of_le h2 (Nat.pow_le_pow_left (by omega) _)
  have h4 : a / x ^ m < x := by
    rw [Nat.div_lt_iff_lt_mul hP, Nat.mul_comm, ← Nat.pow_succ]; exact h3
  rw [Nat.div_lt_iff_lt_mul (by omega), Nat.mul_add, Nat.mul_one, Nat.mul_comm x m]
  omega
/-- where it begins -/
theorem newton_start {a k : Nat} (hk : 1 ≤ k) : rt a k ≤ 2 ^ (bl a / k + 1) := by
  rw [rt_le_iff hk]
  have h1 := bl_lt a
  have h2 : (2 ^ (bl a / k + 1)) ^ k ≤ (2 ^ (bl a / k + 1) + 1) ^ k := Nat.pow_le_pow_left (by omega) k
  have h3 : 2 ^ bl a ≤ (2 ^ (bl a / k + 1)) ^ k := by
    rw [← Nat.pow_mul]
    refine Nat.pow_le_pow_right (by omega) ?_
    have := Nat.lt_mul_div_succ (bl a) (show 0 < k by omega)
    rw [Nat.mul_comm] at this
    omega
  omega
/-- bit by bit: one figure more -/
theorem bitroot_step {a k i o : Nat} (h1 : o ^ k ≤ a) (h2 : a < (o + 2 ^ (i + 1)) ^ k) :
    ((o + 2 ^ i) ^ k ≤ a → (o + 2 ^ i) ^ k ≤ a ∧ a < (o + 2 ^ i + 2 ^ i) ^ k) ∧ (¬ (o + 2 ^ i) ^ k ≤ a → o ^ k ≤ a ∧ a < (o + 2 ^ i) ^ k) := by
  refine ⟨fun h => ⟨h, ?_⟩, fun h => ⟨h1, by omega⟩⟩
  rw [Nat.pow_succ] at h2
  rwa [show o + 2 ^ i + 2 ^ i = o + 2 ^ i * 2 from by omega]
theorem bitroot_start {a k : Nat} (hk : 1 ≤ k) : 0 ^ k ≤ a ∧ a < (0 + 2 ^ (bl a / k + 1)) ^ k := by
  refine ⟨by rw [Nat.zero_pow (by omega)]; omega, ?_⟩
  rw [Nat.zero_add, ← Nat.pow_mul]
  refine Nat.lt_of_lt_of_le (bl_lt a) (Nat.pow_le_pow_right (by omega) ?_)
  have := Nat.lt_mul_div_succ (bl a) (show 0 < k by omega)
  rw [Nat.mul_comm] at this
  omega
end Go.Rt
