/-
  Plain mathematics: rows of limbs told limb by limb; division of two limbs by one; a guess at a quotient's figure.
-/
import Derived.Test.YtbfojmhigfeahaaMathB
namespace Go.Rt

theorem ev_of_limbs {l : List Nat} {Z : Nat} (h : ∀ j, j < l.length → l.getD j 0 = Z / B64 ^ j % B64) : ∀ k, k ≤ l.length → ev B64 (l.take k) = Z % B64 ^ k
  | 0, _ => by simp [Nat.mod_one]
  | k + 1, hk => by
    rw [ev_take_succ (by omega), ev_of_limbs h k (by omega), h k (by omega), Nat.mod_pow_succ]
theorem ev_limbs {l : List Nat} {Z : Nat} (h : ∀ j, j < l.length → l.getD j 0 = Z / B64 ^ j % B64) (hz : Z < B64 ^ l.length) : ev B64 l = Z := by
  have := ev_of_limbs h l.length (Nat.le_refl _)
  rwa [List.take_length, Nat.mod_eq_of_lt hz] at this

/-- a part behind is the number, shifted down by whole limbs -/
theorem ev_drop {xs : List Nat} (hl : Lim B64 xs) (k : Nat) (hk : k ≤ xs.length) : ev B64 (xs.drop k) = ev B64 xs / B64 ^ k := by
  have e := ev_split (b := B64) xs k hk
  have hlt := ev_lt (hl.take k)
  rw [List.length_take, Nat.min_eq_left hk] at hlt
  rw [e, Nat.add_mul_div_left _ _ (Nat.pow_pos B64_pos), Nat.div_eq_of_lt hlt, Nat.zero_add]

/-- a limb of what is shifted down by less than a limb -/
def shrL (ys : List Nat) (b j : Nat) : Nat := (ys.getD j 0 + B64 * ys.getD (j + 1) 0) / 2 ^ b % B64
theorem shrL_eq {ys : List Nat} (hl : Lim B64 ys) {b : Nat} (hb : b < 64) (j : Nat) : shrL ys b j = ev B64 ys / 2 ^ b / B64 ^ j % B64 := by
  unfold shrL
  rw [shr_limb hl j b hb, Nat.div_div_eq_div_mul, pow64, ← Nat.pow_add, Nat.add_comm]
/-- of this limb, and of what the limb above hands down -/
theorem shrL_fig {ys : List Nat} (hl : Lim B64 ys) {b : Nat} (hb : b < 64) (j : Nat) :
    shrL ys b j = ys.getD j 0 / 2 ^ b + ys.getD (j + 1) 0 * 2 ^ (64 - b) % B64 ∧ ys.getD (j + 1) 0 * 2 ^ (64 - b) % B64 = (ys.getD (j + 1) 0 % 2 ^ b) * 2 ^ (64 - b) ∧ ys.getD j 0 / 2 ^ b < 2 ^ (64 - b) := by
  have hx := hl.getD B64_pos j
  unfold shrL
  generalize ys.getD j 0 = x at *
  generalize ys.getD (j + 1) 0 = y at *
  have hB : B64 = 2 ^ b * 2 ^ (64 - b) := by rw [← Nat.pow_add, B64_two]; congr 1; omega
  have e1 : y * 2 ^ (64 - b) % B64 = (y % 2 ^ b) * 2 ^ (64 - b) := by rw [hB, Nat.mul_mod_mul_right]
  have hd : x / 2 ^ b < 2 ^ (64 - b) := Nat.div_lt_of_lt_mul (by rw [← hB]; exact hx)
  refine ⟨?_, e1, hd⟩
  have e2 : (x + B64 * y) / 2 ^ b = x / 2 ^ b + y * 2 ^ (64 - b) := by
    rw [hB, Nat.mul_assoc, Nat.add_mul_div_left _ _ (Nat.two_pow_pos b), Nat.mul_comm y]
  rw [e2, Nat.add_mod, e1]
  have hm := Nat.mod_lt y (Nat.two_pow_pos b)
  have h3 : (y % 2 ^ b + 1) * 2 ^ (64 - b) ≤ 2 ^ b * 2 ^ (64 - b) := Nat.mul_le_mul_right _ hm
  rw [Nat.add_mul, Nat.one_mul, ← hB] at h3
  rw [Nat.mod_eq_of_lt (a := x / 2 ^ b) (by omega), Nat.mod_eq_of_lt (by omega)]

end Go.Rt
