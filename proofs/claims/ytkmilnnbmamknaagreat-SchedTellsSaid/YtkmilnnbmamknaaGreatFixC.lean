/-
  Numbers of a fixed point: sums, products, quotients, scaled.
-/
import Derived.Test.YtkmilnnbmamknaaGreatFixB
import Derived.Test.YtkmilnnbmamknaaGreatGK

namespace Go.Rt

open Go.RowKit Go.Proofs

set_option maxRecDepth 100000 in
set_option maxHeartbeats 4000000 in
theorem Tryz.fixMul (a b : Int) (K : Nat) (hK : K ≤ 40) (w : World) (ha1 : -9223372036854775808 ≤ a) (ha2 : a < 9223372036854775808) (hb1 : -9223372036854775808 ≤ b) (hb2 : b < 9223372036854775808) :
    Calls Tryz.prog 29 #[.int .i64 a, .int .i64 b, .int .i64 (K : Int)] w fun e w' => e = .returned (.tuple #[.int .i64 (fitV (nearR (((a * b : Int) : Rat) / ((2 ^ K : Nat) : Rat)))), .int .i64 (fitE (nearR (((a * b : Int) : Rat) / ((2 ^ K : Nat) : Rat))))]) ∧ Ext w w' := by
  have hKF : fracB (K : Int) = true := decide_eq_true (by omega)
  obtain ⟨P, hP⟩ : ∃ P, P = 2 ^ K := ⟨_, rfl⟩
  have hP0 : 0 < P := by rw [hP]; exact Nat.two_pow_pos K
  have hPb : P ≤ 1099511627776 := by rw [hP]; exact Nat.le_trans (Nat.pow_le_pow_right (by omega) hK) (by decide)
  have hsh : IntKind.u64.wrap (2 ^ K) = (P : Int) := by rw [show ((2 : Int) ^ K) = ((2 ^ K : Nat) : Int) by simp, ← hP, IntKind.wrap_u64]; omega
  rw [← hP]
  rw [← near_mul a b P hP0]
  obtain ⟨N, hN⟩ : ∃ N, N = a.natAbs * b.natAbs := ⟨_, rfl⟩
  rw [← hN]
  obtain ⟨A, hA⟩ : ∃ A, A = a.natAbs := ⟨_, rfl⟩
  obtain ⟨C, hC⟩ : ∃ C, C = b.natAbs := ⟨_, rfl⟩
  have hN2 : N = A * C := by rw [hN, hA, hC]
  have hX : N / 18446744073709551616 * B64 + N % 18446744073709551616 = N := by rw [B64_eq]; omega
  have hhi : N / 18446744073709551616 < 18446744073709551616 := by rw [hN2, Nat.div_lt_iff_lt_mul (by decide)]; exact Nat.lt_of_le_of_lt (Nat.mul_le_mul (show A ≤ 9223372036854775808 by omega) (show C ≤ 9223372036854775808 by omega)) (by decide)
  have hmul : ∀ W, Calls Tryz.prog 21 #[.int .u64 (A : Int), .int .u64 (C : Int)] W fun e w' => e = .returned (.tuple #[.int .u64 ((N / 18446744073709551616 : Nat) : Int), .int .u64 ((N % 18446744073709551616 : Nat) : Int)]) ∧ W = w' := fun W => by
    have := Tryz.mul64N A C (by omega) (by omega) W
    rw [← hN2] at this
    exact this.mono fun _ _ h => ⟨h.1, h.2.symm⟩
  obtain ⟨hi, hhi2⟩ : ∃ hi, hi = N / 18446744073709551616 := ⟨_, rfl⟩
  obtain ⟨lo, hlo2⟩ : ∃ lo, lo = N % 18446744073709551616 := ⟨_, rfl⟩
  have hlo : lo < 18446744073709551616 := by rw [hlo2]; exact Nat.mod_lt _ (by decide)
  rw [← hhi2, ← hlo2] at hX
  rw [← hhi2] at hhi
  rw [← hhi2, ← hlo2] at hmul
  have hby : ∀ (s : Bool) (W : World), Calls Tryz.prog 23 #[.bool s, .agg #[.int .u64 (hi : Int), .int .u64 (lo : Int)], .int .u64 (P : Int)] W fun e w' => e = .returned (.tuple #[.int .i64 (fitV (sgn s (nearN N P))), .int .i64 (fitE (sgn s (nearN N P)))]) ∧ Ext W w' := fun s W => by
    have := Tryz.fixBy s hi lo P W hhi hlo (by omega) (by omega)
    rwa [hX] at this
  have hsa : ∀ W, Calls Tryz.prog 22 #[.int .i64 a] W fun e w' => e = .returned (.int .u64 (A : Int)) ∧ W = w' := fun W => by rw [hA]; exact Tryz.fixSize a W ha1 ha2
  have hsb : ∀ W, Calls Tryz.prog 22 #[.int .i64 b] W fun e w' => e = .returned (.int .u64 (C : Int)) ∧ W = w' := fun W => by rw [hC]; exact Tryz.fixSize b W hb1 hb2
  clear hN hN2 hX hhi2 hlo2 hA hC hhi hlo hP hP0 hPb
  have HBY := Lib.hid hby
  have HMUL := Lib.hid hmul
  have HSA := Lib.hid hsa
  have HSB := Lib.hid hsb
  clear hby hmul hsa hsb
  by_cases ha : a < 0
  · by_cases hb : b < 0
    · have hda : decide (a < 0) = true := decide_eq_true ha
      have hdb : decide (b < 0) = true := decide_eq_true hb
      rw [hda, hdb, show (true != true) = false from rfl]
      go_enter Tryz.func29, Tryz.ntmps29
      go_wp2_with fail
      refine (Tryz.fixIsFrac (K : Int) _).mono ?_
      rintro e w1 ⟨rfl, rfl⟩
      rw [hKF]
      go_wp2_with fail
      refine (HSA.out _).mono ?_
      rintro e w2 ⟨rfl, rfl⟩
      go_wp2_with fail
      refine (HSB.out _).mono ?_
      rintro e w3 ⟨rfl, rfl⟩
      go_wp2_with fail
      refine (HMUL.out _).mono ?_
      rintro e w4 ⟨rfl, rfl⟩
      go_wp2_with fail
      refine (HBY.out false _).mono ?_
      rintro e w5 ⟨rfl, hE⟩
      go_wp2
      go_ret2
      exact ⟨rfl, hE⟩
    · have hda : decide (a < 0) = true := decide_eq_true ha
      have hdb : decide (b < 0) = false := decide_eq_false hb
      rw [hda, hdb, show (true != false) = true from rfl]
      go_enter Tryz.func29, Tryz.ntmps29
      go_wp2_with fail
      refine (Tryz.fixIsFrac (K : Int) _).mono ?_
      rintro e w1 ⟨rfl, rfl⟩
      rw [hKF]
      go_wp2_with fail
      refine (HSA.out _).mono ?_
      rintro e w2 ⟨rfl, rfl⟩
      go_wp2_with fail
      refine (HSB.out _).mono ?_
      rintro e w3 ⟨rfl, rfl⟩
      go_wp2_with fail
      refine (HMUL.out _).mono ?_
      rintro e w4 ⟨rfl, rfl⟩
      go_wp2_with fail
      refine (HBY.out true _).mono ?_
      rintro e w5 ⟨rfl, hE⟩
      go_wp2
      go_ret2
      exact ⟨rfl, hE⟩
  · by_cases hb : b < 0
    · have hda : decide (a < 0) = false := decide_eq_false ha
      have hdb : decide (b < 0) = true := decide_eq_true hb
      rw [hda, hdb, show (false != true) = true from rfl]
      go_enter Tryz.func29, Tryz.ntmps29
      go_wp2_with fail
      refine (Tryz.fixIsFrac (K : Int) _).mono ?_
      rintro e w1 ⟨rfl, rfl⟩
      rw [hKF]
      go_wp2_with fail
      refine (HSA.out _).mono ?_
      rintro e w2 ⟨rfl, rfl⟩
      go_wp2_with fail
      refine (HSB.out _).mono ?_
      rintro e w3 ⟨rfl, rfl⟩
      go_wp2_with fail
      refine (HMUL.out _).mono ?_
      rintro e w4 ⟨rfl, rfl⟩
      go_wp2_with fail
      refine (HBY.out true _).mono ?_
      rintro e w5 ⟨rfl, hE⟩
      go_wp2
      go_ret2
      exact ⟨rfl, hE⟩
    · have hda : decide (a < 0) = false := decide_eq_false ha
      have hdb : decide (b < 0) = false := decide_eq_false hb
      rw [hda, hdb, show (false != false) = false from rfl]
      go_enter Tryz.func29, Tryz.ntmps29
      go_wp2_with fail
      refine (Tryz.fixIsFrac (K : Int) _).mono ?_
      rintro e w1 ⟨rfl, rfl⟩
      rw [hKF]
      go_wp2_with fail
      refine (HSA.out _).mono ?_
      rintro e w2 ⟨rfl, rfl⟩
      go_wp2_with fail
      refine (HSB.out _).mono ?_
      rintro e w3 ⟨rfl, rfl⟩
      go_wp2_with fail
      refine (HMUL.out _).mono ?_
      rintro e w4 ⟨rfl, rfl⟩
      go_wp2_with fail
      refine (HBY.out false _).mono ?_
      rintro e w5 ⟨rfl, hE⟩
      go_wp2
      go_ret2
      exact ⟨rfl, hE⟩

set_option maxRecDepth 100000 in
set_option maxHeartbeats 4000000 in
theorem Tryz.fixScale (a b : Int) (d : Nat) (w : World) (ha1 : -9223372036854775808 ≤ a) (ha2 : a < 9223372036854775808) (hb1 : -9223372036854775808 ≤ b) (hb2 : b < 9223372036854775808) (hd0 : 0 < d) (hd : d < 9223372036854775808) :
    Calls Tryz.prog 10 #[.int .i64 a, .int .i64 b, .int .i64 (d : Int)] w fun e w' => e = .returned (.tuple #[.int .i64 (fitV (nearR (((a * b : Int) : Rat) / (d : Rat)))), .int .i64 (fitE (nearR (((a * b : Int) : Rat) / (d : Rat))))]) ∧ Ext w w' := by
  rw [← near_mul a b d hd0]
  obtain ⟨N, hN⟩ : ∃ N, N = a.natAbs * b.natAbs := ⟨_, rfl⟩
  rw [← hN]
  obtain ⟨A, hA⟩ : ∃ A, A = a.natAbs := ⟨_, rfl⟩
  obtain ⟨C, hC⟩ : ∃ C, C = b.natAbs := ⟨_, rfl⟩
  have hN2 : N = A * C := by rw [hN, hA, hC]
  have hX : N / 18446744073709551616 * B64 + N % 18446744073709551616 = N := by rw [B64_eq]; omega
  have hhi : N / 18446744073709551616 < 18446744073709551616 := by rw [hN2, Nat.div_lt_iff_lt_mul (by decide)]; exact Nat.lt_of_le_of_lt (Nat.mul_le_mul (show A ≤ 9223372036854775808 by omega) (show C ≤ 9223372036854775808 by omega)) (by decide)
  have hmul : ∀ W, Calls Tryz.prog 21 #[.int .u64 (A : Int), .int .u64 (C : Int)] W fun e w' => e = .returned (.tuple #[.int .u64 ((N / 18446744073709551616 : Nat) : Int), .int .u64 ((N % 18446744073709551616 : Nat) : Int)]) ∧ W = w' := fun W => by
    have := Tryz.mul64N A C (by omega) (by omega) W
    rw [← hN2] at this
    exact this.mono fun _ _ h => ⟨h.1, h.2.symm⟩
  obtain ⟨hi, hhi2⟩ : ∃ hi, hi = N / 18446744073709551616 := ⟨_, rfl⟩
  obtain ⟨lo, hlo2⟩ : ∃ lo, lo = N % 18446744073709551616 := ⟨_, rfl⟩
  have hlo : lo < 18446744073709551616 := by rw [hlo2]; exact Nat.mod_lt _ (by decide)
  rw [← hhi2, ← hlo2] at hX
  rw [← hhi2] at hhi
  rw [← hhi2, ← hlo2] at hmul
  have hby : ∀ (s : Bool) (W : World), Calls Tryz.prog 23 #[.bool s, .agg #[.int .u64 (hi : Int), .int .u64 (lo : Int)], .int .u64 (d : Int)] W fun e w' => e = .returned (.tuple #[.int .i64 (fitV (sgn s (nearN N d))), .int .i64 (fitE (sgn s (nearN N d)))]) ∧ Ext W w' := fun s W => by
    have := Tryz.fixBy s hi lo d W hhi hlo (by omega) (by omega)
    rwa [hX] at this
  have hsa : ∀ W, Calls Tryz.prog 22 #[.int .i64 a] W fun e w' => e = .returned (.int .u64 (A : Int)) ∧ W = w' := fun W => by rw [hA]; exact Tryz.fixSize a W ha1 ha2
  have hsb : ∀ W, Calls Tryz.prog 22 #[.int .i64 b] W fun e w' => e = .returned (.int .u64 (C : Int)) ∧ W = w' := fun W => by rw [hC]; exact Tryz.fixSize b W hb1 hb2
  have hd1 : ¬ ((d : Int) < 1) := by omega
  have hd1d : decide ((d : Int) < 1) = false := decide_eq_false hd1
  have hwd : IntKind.u64.wrap (d : Int) = (d : Int) := by rw [IntKind.wrap_u64]; omega
  clear hN hN2 hX hhi2 hlo2 hA hC hhi hlo
  have HBY := Lib.hid hby
  have HMUL := Lib.hid hmul
  have HSA := Lib.hid hsa
  have HSB := Lib.hid hsb
  clear hby hmul hsa hsb
  by_cases ha : a < 0
  · by_cases hb : b < 0
    · have hda : decide (a < 0) = true := decide_eq_true ha
      have hdb : decide (b < 0) = true := decide_eq_true hb
      rw [hda, hdb, show (true != true) = false from rfl]
      go_enter Tryz.func10, Tryz.ntmps10
      go_wp2_with fail
      refine (HSA.out _).mono ?_
      rintro e w2 ⟨rfl, rfl⟩
      go_wp2_with fail
      refine (HSB.out _).mono ?_
      rintro e w3 ⟨rfl, rfl⟩
      go_wp2_with fail
      refine (HMUL.out _).mono ?_
      rintro e w4 ⟨rfl, rfl⟩
      go_wp2_with fail
      refine (HBY.out false _).mono ?_
      rintro e w5 ⟨rfl, hE⟩
      go_wp2
      go_ret2
      exact ⟨rfl, hE⟩
    · have hda : decide (a < 0) = true := decide_eq_true ha
      have hdb : decide (b < 0) = false := decide_eq_false hb
      rw [hda, hdb, show (true != false) = true from rfl]
      go_enter Tryz.func10, Tryz.ntmps10
      go_wp2_with fail
      refine (HSA.out _).mono ?_
      rintro e w2 ⟨rfl, rfl⟩
      go_wp2_with fail
      refine (HSB.out _).mono ?_
      rintro e w3 ⟨rfl, rfl⟩
      go_wp2_with fail
      refine (HMUL.out _).mono ?_
      rintro e w4 ⟨rfl, rfl⟩
      go_wp2_with fail
      refine (HBY.out true _).mono ?_
      rintro e w5 ⟨rfl, hE⟩
      go_wp2
      go_ret2
      exact ⟨rfl, hE⟩
  · by_cases hb : b < 0
    · have hda : decide (a < 0) = false := decide_eq_false ha
      have hdb : decide (b < 0) = true := decide_eq_true hb
      rw [hda, hdb, show (false != true) = true from rfl]
      go_enter Tryz.func10, Tryz.ntmps10
      go_wp2_with fail
      refine (HSA.out _).mono ?_
      rintro e w2 ⟨rfl, rfl⟩
      go_wp2_with fail
      refine (HSB.out _).mono ?_
      rintro e w3 ⟨rfl, rfl⟩
      go_wp2_with fail
      refine (HMUL.out _).mono ?_
      rintro e w4 ⟨rfl, rfl⟩
      go_wp2_with fail
      refine (HBY.out true _).mono ?_
      rintro e w5 ⟨rfl, hE⟩
      go_wp2
      go_ret2
      exact ⟨rfl, hE⟩
    · have hda : decide (a < 0) = false := decide_eq_false ha
      have hdb : decide (b < 0) = false := decide_eq_false hb
      rw [hda, hdb, show (false != false) = false from rfl]
      go_enter Tryz.func10, Tryz.ntmps10
      go_wp2_with fail
      refine (HSA.out _).mono ?_
      rintro e w2 ⟨rfl, rfl⟩
      go_wp2_with fail
      refine (HSB.out _).mono ?_
      rintro e w3 ⟨rfl, rfl⟩
      go_wp2_with fail
      refine (HMUL.out _).mono ?_
      rintro e w4 ⟨rfl, rfl⟩
      go_wp2_with fail
      refine (HBY.out false _).mono ?_
      rintro e w5 ⟨rfl, hE⟩
      go_wp2
      go_ret2
      exact ⟨rfl, hE⟩

end Go.Rt
