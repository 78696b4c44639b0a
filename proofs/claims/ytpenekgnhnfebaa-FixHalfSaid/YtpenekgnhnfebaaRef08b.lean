/-
  Numbers of a fixed point by definition: products, quotients, scaled, roots.
-/
import Derived.Test.YtpenekgnhnfebaaRef08
namespace Go.Rt
open Go.RowKit Go.Proofs

theorem SmR.backP {a : Int} (h : Sm 1 a.natAbs) {K : Nat} (hK : K ≤ 41) : SmR 2 ((a : Rat) / P2 K) := by
  rw [← back_eq]
  exact (SmR.back h K).mono (by omega)

theorem mul_back (a b : Int) (K : Nat) : (a : Rat) / P2 K * ((b : Rat) / P2 K) * P2 K = ((a * b : Int) : Rat) / ((2 ^ K : Nat) : Rat) := by
  have h := P2_pos K
  rw [show (((2 ^ K : Nat)) : Rat) = P2 K from rfl, Rat.intCast_mul]
  have h0 : P2 K ≠ 0 := by intro e; rw [e] at h; exact absurd h (by decide)
  generalize P2 K = p at *
  rw [Rat.div_def, Rat.div_def, Rat.div_def]
  have e : p⁻¹ * p = 1 := Rat.inv_mul_cancel _ h0
  grind

theorem div_scaled (a b : Int) (K : Nat) : (a : Rat) / (b : Rat) * P2 K = ((a * ((2 ^ K : Nat) : Int) : Int) : Rat) / (b : Rat) := by
  rw [Rat.intCast_mul, Rat.intCast_natCast, show (((2 ^ K : Nat)) : Rat) = P2 K from rfl, Rat.div_def, Rat.div_def]
  grind

end Go.Rt
