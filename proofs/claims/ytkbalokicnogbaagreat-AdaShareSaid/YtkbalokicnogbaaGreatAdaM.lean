/-
  Adafactor in numbers: a step's share.
-/
import Derived.Test.YtkbalokicnogbaaGreatGT
import Derived.Test.YtkbalokicnogbaaGreatGS
namespace Go.Rt

/-- a step's share, in steps of 2 to the power of -K -/
noncomputable def shareN (t K : Nat) : Nat := rt (2 ^ (5 * K) / t ^ 4) 5

theorem share_low (t K : Nat) : shareN t K ^ 5 * t ^ 4 ≤ 2 ^ (5 * K) := by
  have h := (rt_is (2 ^ (5 * K) / t ^ 4) (k := 5) (by decide)).1
  exact Nat.le_trans (Nat.mul_le_mul_right _ h) (Nat.div_mul_le_self _ _)

theorem share_high {t : Nat} (ht : 0 < t) (K : Nat) : 2 ^ (5 * K) < (shareN t K + 1) ^ 5 * t ^ 4 := by
  have h := (rt_is (2 ^ (5 * K) / t ^ 4) (k := 5) (by decide)).2
  exact (Nat.div_lt_iff_lt_mul (Nat.pow_pos ht)).1 h

theorem share_mono {t u : Nat} (ht : 0 < t) (h : t ≤ u) (K : Nat) : shareN u K ≤ shareN t K :=
  rt_mono (by decide) (Nat.div_le_div_left (Nat.pow_le_pow_left h 4) (Nat.pow_pos ht))

theorem share_one (K : Nat) : shareN 1 K = 2 ^ K := by
  unfold shareN
  rw [Nat.one_pow, Nat.div_one, Nat.mul_comm, Nat.pow_mul]
  exact rt_eq (by decide) ⟨Nat.le_refl _, Nat.pow_lt_pow_left (Nat.lt_succ_self _) (by decide)⟩

theorem share_le {t : Nat} (ht : 0 < t) (K : Nat) : shareN t K ≤ 2 ^ K := by
  rw [← share_one K]
  exact share_mono (by decide) ht K
end Go.Rt
