/-
  Plain laws on schedules: what a step's rate is.
-/
import Derived.Test.YtlkinepafpbhhaaGreatFixM
import Derived.Test.YtlkinepafpbhhaaGreatGE

namespace Go.Rt

open Go

theorem qdiv_mono {a b c : Rat} (hc : 0 < c) (h : a ≤ b) : a / c ≤ b / c := by
  have hi : 0 ≤ c⁻¹ := by
    have h1 : c⁻¹ * c = 1 := Rat.inv_mul_cancel _ (by intro e; rw [e] at hc; exact absurd hc (by decide))
    cases Rat.le_total (a := 0) (b := c⁻¹) with
    | inl h => exact h
    | inr h2 =>
      have := Rat.mul_le_mul_of_nonneg_right h2 (Rat.le_of_lt hc)
      rw [h1, Rat.zero_mul] at this
      exact absurd this (by decide)
  rw [Rat.div_def, Rat.div_def]
  exact Rat.mul_le_mul_of_nonneg_right h hi

theorem natR_pos {d : Nat} (hd : 0 < d) : (0 : Rat) < (d : Rat) := by exact_mod_cast hd

/-- a ratio, rounded -/
def ratioV (a : Int) (d : Nat) : Int := nearR ((a : Rat) / (d : Rat))

theorem ratio_mono {a b : Int} {d : Nat} (hd : 0 < d) (h : a ≤ b) : ratioV a d ≤ ratioV b d :=
  near_mono (qdiv_mono (natR_pos hd) (Rat.intCast_le_intCast.2 h))

theorem ratio_whole (n : Int) {d : Nat} (hd : 0 < d) : ratioV (n * (d : Int)) d = n := by
  unfold ratioV
  rw [Rat.intCast_mul, Rat.intCast_natCast, Rat.mul_div_cancel (by have := natR_pos hd; grind), near_int]

theorem ratio_zero {d : Nat} (hd : 0 < d) : ratioV 0 d = 0 := by
  have := ratio_whole 0 hd
  rwa [Int.zero_mul] at this

theorem ratio_nonneg {a : Int} {d : Nat} (hd : 0 < d) (h : 0 ≤ a) : 0 ≤ ratioV a d := by
  have := ratio_mono hd h
  rwa [ratio_zero hd] at this

/-! ### a step's rate -/

noncomputable def slowV (B W t : Nat) : Nat := rt (B * B * max W 1 / t) 2

def dropV (R K : Nat) (x : Int) : Nat → Int
  | 0 => x
  | n + 1 => ratioV (dropV R K x n * (R : Int)) (2 ^ K)

def shareV (D : Int) (L P l : Nat) : Int := ratioV (D * ((l ^ P : Nat) : Int)) (L ^ P)

noncomputable def rateV (kd b r e w v l p : Int) (t K : Nat) : Int :=
  if (t : Int) ≤ w then ratioV (b * (t : Int)) w.toNat
  else if kd = 1 then ((slowV b.toNat w.toNat t : Nat) : Int)
  else if kd = 2 then dropV r.toNat K b (min ((t - w.toNat) / v.toNat) 200)
  else if kd = 3 then e + shareV (b - e) l.toNat p.toNat (l.toNat - t)
  else b

/-! ### of a right schedule -/

section

variable {kd b r e w v l p f : Int} {K : Nat}
theorem rate_warm {t : Nat} (h : (t : Int) ≤ w) : rateV kd b r e w v l p t K = ratioV (b * (t : Int)) w.toNat := if_pos h

end

end Go.Rt
