/-
  Numbers of a fixed point: sums, products, quotients, scaled.
-/
import Derived.Test.YtkbalokicnogbaaGreatFixB
import Derived.Test.YtkbalokicnogbaaGreatGK

namespace Go.Rt

open Go.RowKit Go.Proofs

set_option maxRecDepth 100000 in
set_option maxHeartbeats 4000000 in
theorem Tryz.fixAdd (a b : Int) (w : World) (ha1 : -9223372036854775808 ≤ a) (ha2 : a < 9223372036854775808) (hb1 : -9223372036854775808 ≤ b) (hb2 : b < 9223372036854775808) :
    Calls Tryz.prog 139 #[.int .i64 a, .int .i64 b] w fun e w' => e = .returned (.tuple #[.int .i64 (fitV (a + b)), .int .i64 (fitE (a + b))]) ∧ w = w' := by
  obtain ⟨n, hn⟩ : ∃ n, IntKind.i64.wrap (a + b) = n := ⟨_, rfl⟩
  obtain ⟨s, hs⟩ : ∃ s, s = a + b := ⟨_, rfl⟩
  by_cases hf : fits s = true
  · have hfs := fits_iff.1 hf
    by_cases ha : a < 0
    · by_cases hb : b < 0
      · have hnv : n = s := by rw [← hn, ← hs, IntKind.wrap_i64]; omega
        have hnn : n < 0 := by omega
        have hnd : decide (n < 0) = true := decide_eq_true hnn
        have hda : decide (a < 0) = true := decide_eq_true ha
        have hdb : decide (b < 0) = true := decide_eq_true hb
        have HV : Hid (fitV (a + b) = n) := Lib.hid (by rw [← hs, fitV_in hf]; exact hnv.symm)
        have HE : Hid (fitE (a + b) = 0) := Lib.hid (by rw [← hs]; exact fitE_in hf)
        clear hf hnv hs
        go_enter Tryz.func139, Tryz.ntmps139
        go_wp2
        go_ret2
        exact ⟨by rw [HV.out, HE.out]; rfl, rfl⟩
      · have hnv : n = s := by rw [← hn, ← hs, IntKind.wrap_i64]; omega
        have hda : decide (a < 0) = true := decide_eq_true ha
        have hdb : decide (b < 0) = false := decide_eq_false hb
        have HV : Hid (fitV (a + b) = n) := Lib.hid (by rw [← hs, fitV_in hf]; exact hnv.symm)
        have HE : Hid (fitE (a + b) = 0) := Lib.hid (by rw [← hs]; exact fitE_in hf)
        clear hf hnv hs
        go_enter Tryz.func139, Tryz.ntmps139
        go_wp2
        go_ret2
        exact ⟨by rw [HV.out, HE.out]; rfl, rfl⟩
    · by_cases hb : b < 0
      · have hnv : n = s := by rw [← hn, ← hs, IntKind.wrap_i64]; omega
        have hda : decide (a < 0) = false := decide_eq_false ha
        have hdb : decide (b < 0) = true := decide_eq_true hb
        have HV : Hid (fitV (a + b) = n) := Lib.hid (by rw [← hs, fitV_in hf]; exact hnv.symm)
        have HE : Hid (fitE (a + b) = 0) := Lib.hid (by rw [← hs]; exact fitE_in hf)
        clear hf hnv hs
        go_enter Tryz.func139, Tryz.ntmps139
        go_wp2
        go_ret2
        exact ⟨by rw [HV.out, HE.out]; rfl, rfl⟩
      · have hnv : n = s := by rw [← hn, ← hs, IntKind.wrap_i64]; omega
        have hnn : ¬ n < 0 := by omega
        have hnd : decide (n < 0) = false := decide_eq_false hnn
        have hda : decide (a < 0) = false := decide_eq_false ha
        have hdb : decide (b < 0) = false := decide_eq_false hb
        have HV : Hid (fitV (a + b) = n) := Lib.hid (by rw [← hs, fitV_in hf]; exact hnv.symm)
        have HE : Hid (fitE (a + b) = 0) := Lib.hid (by rw [← hs]; exact fitE_in hf)
        clear hf hnv hs
        go_enter Tryz.func139, Tryz.ntmps139
        go_wp2
        go_ret2
        exact ⟨by rw [HV.out, HE.out]; rfl, rfl⟩
  · have hfs : ¬ (-9223372036854775808 ≤ s ∧ s < 9223372036854775808) := fun h => hf (fits_iff.2 h)
    replace hf : fits s = false := by cases hq : fits s; rfl; exact absurd hq hf
    by_cases ha : a < 0
    · by_cases hb : b < 0
      · have hnv : n = s + 18446744073709551616 := by rw [← hn, ← hs, IntKind.wrap_i64]; omega
        have hnn : ¬ n < 0 := by omega
        have hnd : decide (n < 0) = false := decide_eq_false hnn
        have hda : decide (a < 0) = true := decide_eq_true ha
        have hdb : decide (b < 0) = true := decide_eq_true hb
        have HV : Hid (fitV (a + b) = 0) := Lib.hid (by rw [← hs]; exact fitV_out hf)
        have HE : Hid (fitE (a + b) = 2) := Lib.hid (by rw [← hs]; exact fitE_out hf)
        clear hf hnv hs
        go_enter Tryz.func139, Tryz.ntmps139
        go_wp2
        go_ret2
        exact ⟨by rw [HV.out, HE.out]; rfl, rfl⟩
      · omega
    · by_cases hb : b < 0
      · omega
      · have hnv : n = s - 18446744073709551616 := by rw [← hn, ← hs, IntKind.wrap_i64]; omega
        have hnn : n < 0 := by omega
        have hnd : decide (n < 0) = true := decide_eq_true hnn
        have hda : decide (a < 0) = false := decide_eq_false ha
        have hdb : decide (b < 0) = false := decide_eq_false hb
        have HV : Hid (fitV (a + b) = 0) := Lib.hid (by rw [← hs]; exact fitV_out hf)
        have HE : Hid (fitE (a + b) = 2) := Lib.hid (by rw [← hs]; exact fitE_out hf)
        clear hf hnv hs
        go_enter Tryz.func139, Tryz.ntmps139
        go_wp2
        go_ret2
        exact ⟨by rw [HV.out, HE.out]; rfl, rfl⟩

set_option maxRecDepth 100000 in
set_option maxHeartbeats 4000000 in
theorem Tryz.fixSub (a b : Int) (w : World) (ha1 : -9223372036854775808 ≤ a) (ha2 : a < 9223372036854775808) (hb1 : -9223372036854775808 ≤ b) (hb2 : b < 9223372036854775808) :
    Calls Tryz.prog 108 #[.int .i64 a, .int .i64 b] w fun e w' => e = .returned (.tuple #[.int .i64 (fitV (a - b)), .int .i64 (fitE (a - b))]) ∧ w = w' := by
  obtain ⟨n, hn⟩ : ∃ n, IntKind.i64.wrap (a - b) = n := ⟨_, rfl⟩
  obtain ⟨s, hs⟩ : ∃ s, s = a - b := ⟨_, rfl⟩
  by_cases hf : fits s = true
  · have hfs := fits_iff.1 hf
    by_cases ha : a < 0
    · by_cases hb : b < 0
      · have hnv : n = s := by rw [← hn, ← hs, IntKind.wrap_i64]; omega
        have hda : decide (a < 0) = true := decide_eq_true ha
        have hdb : decide (b < 0) = true := decide_eq_true hb
        have HV : Hid (fitV (a - b) = n) := Lib.hid (by rw [← hs, fitV_in hf]; exact hnv.symm)
        have HE : Hid (fitE (a - b) = 0) := Lib.hid (by rw [← hs]; exact fitE_in hf)
        clear hf hnv hs
        go_enter Tryz.func108, Tryz.ntmps108
        go_wp2
        go_ret2
        exact ⟨by rw [HV.out, HE.out]; rfl, rfl⟩
      · have hnv : n = s := by rw [← hn, ← hs, IntKind.wrap_i64]; omega
        have hnn : n < 0 := by omega
        have hnd : decide (n < 0) = true := decide_eq_true hnn
        have hda : decide (a < 0) = true := decide_eq_true ha
        have hdb : decide (b < 0) = false := decide_eq_false hb
        have HV : Hid (fitV (a - b) = n) := Lib.hid (by rw [← hs, fitV_in hf]; exact hnv.symm)
        have HE : Hid (fitE (a - b) = 0) := Lib.hid (by rw [← hs]; exact fitE_in hf)
        clear hf hnv hs
        go_enter Tryz.func108, Tryz.ntmps108
        go_wp2
        go_ret2
        exact ⟨by rw [HV.out, HE.out]; rfl, rfl⟩
    · by_cases hb : b < 0
      · have hnv : n = s := by rw [← hn, ← hs, IntKind.wrap_i64]; omega
        have hnn : ¬ n < 0 := by omega
        have hnd : decide (n < 0) = false := decide_eq_false hnn
        have hda : decide (a < 0) = false := decide_eq_false ha
        have hdb : decide (b < 0) = true := decide_eq_true hb
        have HV : Hid (fitV (a - b) = n) := Lib.hid (by rw [← hs, fitV_in hf]; exact hnv.symm)
        have HE : Hid (fitE (a - b) = 0) := Lib.hid (by rw [← hs]; exact fitE_in hf)
        clear hf hnv hs
        go_enter Tryz.func108, Tryz.ntmps108
        go_wp2
        go_ret2
        exact ⟨by rw [HV.out, HE.out]; rfl, rfl⟩
      · have hnv : n = s := by rw [← hn, ← hs, IntKind.wrap_i64]; omega
        have hda : decide (a < 0) = false := decide_eq_false ha
        have hdb : decide (b < 0) = false := decide_eq_false hb
        have HV : Hid (fitV (a - b) = n) := Lib.hid (by rw [← hs, fitV_in hf]; exact hnv.symm)
        have HE : Hid (fitE (a - b) = 0) := Lib.hid (by rw [← hs]; exact fitE_in hf)
        clear hf hnv hs
        go_enter Tryz.func108, Tryz.ntmps108
        go_wp2
        go_ret2
        exact ⟨by rw [HV.out, HE.out]; rfl, rfl⟩
  · have hfs : ¬ (-9223372036854775808 ≤ s ∧ s < 9223372036854775808) := fun h => hf (fits_iff.2 h)
    replace hf : fits s = false := by cases hq : fits s; rfl; exact absurd hq hf
    by_cases ha : a < 0
    · by_cases hb : b < 0
      · omega
      · have hnv : n = s + 18446744073709551616 := by rw [← hn, ← hs, IntKind.wrap_i64]; omega
        have hnn : ¬ n < 0 := by omega
        have hnd : decide (n < 0) = false := decide_eq_false hnn
        have hda : decide (a < 0) = true := decide_eq_true ha
        have hdb : decide (b < 0) = false := decide_eq_false hb
        have HV : Hid (fitV (a - b) = 0) := Lib.hid (by rw [← hs]; exact fitV_out hf)
        have HE : Hid (fitE (a - b) = 2) := Lib.hid (by rw [← hs]; exact fitE_out hf)
        clear hf hnv hs
        go_enter Tryz.func108, Tryz.ntmps108
        go_wp2
        go_ret2
        exact ⟨by rw [HV.out, HE.out]; rfl, rfl⟩
    · by_cases hb : b < 0
      · have hnv : n = s - 18446744073709551616 := by rw [← hn, ← hs, IntKind.wrap_i64]; omega
        have hnn : n < 0 := by omega
        have hnd : decide (n < 0) = true := decide_eq_true hnn
        have hda : decide (a < 0) = false := decide_eq_false ha
        have hdb : decide (b < 0) = true := decide_eq_true hb
        have HV : Hid (fitV (a - b) = 0) := Lib.hid (by rw [← hs]; exact fitV_out hf)
        have HE : Hid (fitE (a - b) = 2) := Lib.hid (by rw [← hs]; exact fitE_out hf)
        clear hf hnv hs
        go_enter Tryz.func108, Tryz.ntmps108
        go_wp2
        go_ret2
        exact ⟨by rw [HV.out, HE.out]; rfl, rfl⟩
      · omega

set_option maxRecDepth 100000 in
set_option maxHeartbeats 4000000 in
theorem Tryz.fixMul (a b : Int) (K : Nat) (hK : K ≤ 40) (w : World) (ha1 : -9223372036854775808 ≤ a) (ha2 : a < 9223372036854775808) (hb1 : -9223372036854775808 ≤ b) (hb2 : b < 9223372036854775808) :
    Calls Tryz.prog 38 #[.int .i64 a, .int .i64 b, .int .i64 (K : Int)] w fun e w' => e = .returned (.tuple #[.int .i64 (fitV (nearR (((a * b : Int) : Rat) / ((2 ^ K : Nat) : Rat)))), .int .i64 (fitE (nearR (((a * b : Int) : Rat) / ((2 ^ K : Nat) : Rat))))]) ∧ Ext w w' := by
  have hKF : fracB (K : Int) = true := decide_eq_true (by omega)
  obtain ⟨P, hP⟩ : ∃ P, P = 2 ^ K := ⟨_, rfl⟩
  have hP0 : 0 < P := by rw [hP]; exact Nat.two_pow_pos K
  have hPb : P ≤ 1099511627776 := by rw [hP]; exact Nat.le_trans (Nat.pow_le_pow_right (by omega) hK) (by decide)
  have hsh : IntKind.u64.wrap (2 ^ K) = (P : Int) := by rw [show ((2 : Int) ^ K) = ((2 ^ K : Nat) : Int) by simp, ← hP, IntKind.wrap_u64]; omega
  rw [← hP]
  rw [← near_mul a b P hP0]
  obtain ⟨N, hN⟩ : ∃ N, N = a.natAbs * b.natAbs := ⟨_, rfl⟩
  rw [← hN]
  obtain ⟨A, hA⟩ : ∃ A, A = a.natAbs := ⟨_, rfl⟩
  obtain ⟨C, hC⟩ : ∃ C, C = b.natAbs := ⟨_, rfl⟩
  have hN2 : N = A * C := by rw [hN, hA, hC]
  have hX : N / 18446744073709551616 * B64 + N % 18446744073709551616 = N := by rw [B64_eq]; omega
  have hhi : N / 18446744073709551616 < 18446744073709551616 := by rw [hN2, Nat.div_lt_iff_lt_mul (by decide)]; exact Nat.lt_of_le_of_lt (Nat.mul_le_mul (show A ≤ 9223372036854775808 by omega) (show C ≤ 9223372036854775808 by omega)) (by decide)
  have hmul : ∀ W, Calls Tryz.prog 77 #[.int .u64 (A : Int), .int .u64 (C : Int)] W fun e w' => e = .returned (.tuple #[.int .u64 ((N / 18446744073709551616 : Nat) : Int), .int .u64 ((N % 18446744073709551616 : Nat) : Int)]) ∧ W = w' := fun W => by
    have := Tryz.mul64N A C (by omega) (by omega) W
    rw [← hN2] at this
    exact this.mono fun _ _ h => ⟨h.1, h.2.symm⟩
  obtain ⟨hi, hhi2⟩ : ∃ hi, hi = N / 18446744073709551616 := ⟨_, rfl⟩
  obtain ⟨lo, hlo2⟩ : ∃ lo, lo = N % 18446744073709551616 := ⟨_, rfl⟩
  have hlo : lo < 18446744073709551616 := by rw [hlo2]; exact Nat.mod_lt _ (by decide)
  rw [← hhi2, ← hlo2] at hX
  rw [← hhi2] at hhi
  rw [← hhi2, ← hlo2] at hmul
  have hby : ∀ (s : Bool) (W : World), Calls Tryz.prog 79 #[.bool s, .agg #[.int .u64 (hi : Int), .int .u64 (lo : Int)], .int .u64 (P : Int)] W fun e w' => e = .returned (.tuple #[.int .i64 (fitV (sgn s (nearN N P))), .int .i64 (fitE (sgn s (nearN N P)))]) ∧ Ext W w' := fun s W => by
    have := Tryz.fixBy s hi lo P W hhi hlo (by omega) (by omega)
    rwa [hX] at this
  have hsa : ∀ W, Calls Tryz.prog 78 #[.int .i64 a] W fun e w' => e = .returned (.int .u64 (A : Int)) ∧ W = w' := fun W => by rw [hA]; exact Tryz.fixSize a W ha1 ha2
  have hsb : ∀ W, Calls Tryz.prog 78 #[.int .i64 b] W fun e w' => e = .returned (.int .u64 (C : Int)) ∧ W = w' := fun W => by rw [hC]; exact Tryz.fixSize b W hb1 hb2
  clear hN hN2 hX hhi2 hlo2 hA hC hhi hlo hP hP0 hPb
  have HBY := Lib.hid hby
  have HMUL := Lib.hid hmul
  have HSA := Lib.hid hsa
  have HSB := Lib.hid hsb
  clear hby hmul hsa hsb
  by_cases ha : a < 0
  · by_cases hb : b < 0
    · have hda : decide (a < 0) = true := decide_eq_true ha
      have hdb : decide (b < 0) = true := decide_eq_true hb
      rw [hda, hdb, show (true != true) = false from rfl]
      go_enter Tryz.func38, Tryz.ntmps38
      go_wp2_with fail
      refine (Tryz.fixIsFrac (K : Int) _).mono ?_
      rintro e w1 ⟨rfl, rfl⟩
      rw [hKF]
      go_wp2_with fail
      refine (HSA.out _).mono ?_
      rintro e w2 ⟨rfl, rfl⟩
      go_wp2_with fail
      refine (HSB.out _).mono ?_
      rintro e w3 ⟨rfl, rfl⟩
      go_wp2_with fail
      refine (HMUL.out _).mono ?_
      rintro e w4 ⟨rfl, rfl⟩
      go_wp2_with fail
      refine (HBY.out false _).mono ?_
      rintro e w5 ⟨rfl, hE⟩
      go_wp2
      go_ret2
      exact ⟨rfl, hE⟩
    · have hda : decide (a < 0) = true := decide_eq_true ha
      have hdb : decide (b < 0) = false := decide_eq_false hb
      rw [hda, hdb, show (true != false) = true from rfl]
      go_enter Tryz.func38, Tryz.ntmps38
      go_wp2_with fail
      refine (Tryz.fixIsFrac (K : Int) _).mono ?_
      rintro e w1 ⟨rfl, rfl⟩
      rw [hKF]
      go_wp2_with fail
      refine (HSA.out _).mono ?_
      rintro e w2 ⟨rfl, rfl⟩
      go_wp2_with fail
      refine (HSB.out _).mono ?_
      rintro e w3 ⟨rfl, rfl⟩
      go_wp2_with fail
      refine (HMUL.out _).mono ?_
      rintro e w4 ⟨rfl, rfl⟩
      go_wp2_with fail
      refine (HBY.out true _).mono ?_
      rintro e w5 ⟨rfl, hE⟩
      go_wp2
      go_ret2
      exact ⟨rfl, hE⟩
  · by_cases hb : b < 0
    · have hda : decide (a < 0) = false := decide_eq_false ha
      have hdb : decide (b < 0) = true := decide_eq_true hb
      rw [hda, hdb, show (false != true) = true from rfl]
      go_enter Tryz.func38, Tryz.ntmps38
      go_wp2_with fail
      refine (Tryz.fixIsFrac (K : Int) _).mono ?_
      rintro e w1 ⟨rfl, rfl⟩
      rw [hKF]
      go_wp2_with fail
      refine (HSA.out _).mono ?_
      rintro e w2 ⟨rfl, rfl⟩
      go_wp2_with fail
      refine (HSB.out _).mono ?_
      rintro e w3 ⟨rfl, rfl⟩
      go_wp2_with fail
      refine (HMUL.out _).mono ?_
      rintro e w4 ⟨rfl, rfl⟩
      go_wp2_with fail
      refine (HBY.out true _).mono ?_
      rintro e w5 ⟨rfl, hE⟩
      go_wp2
      go_ret2
      exact ⟨rfl, hE⟩
    · have hda : decide (a < 0) = false := decide_eq_false ha
      have hdb : decide (b < 0) = false := decide_eq_false hb
      rw [hda, hdb, show (false != false) = false from rfl]
      go_enter Tryz.func38, Tryz.ntmps38
      go_wp2_with fail
      refine (Tryz.fixIsFrac (K : Int) _).mono ?_
      rintro e w1 ⟨rfl, rfl⟩
      rw [hKF]
      go_wp2_with fail
      refine (HSA.out _).mono ?_
      rintro e w2 ⟨rfl, rfl⟩
      go_wp2_with fail
      refine (HSB.out _).mono ?_
      rintro e w3 ⟨rfl, rfl⟩
      go_wp2_with fail
      refine (HMUL.out _).mono ?_
      rintro e w4 ⟨rfl, rfl⟩
      go_wp2_with fail
      refine (HBY.out false _).mono ?_
      rintro e w5 ⟨rfl, hE⟩
      go_wp2
      go_ret2
      exact ⟨rfl, hE⟩

set_option maxRecDepth 100000 in
set_option maxHeartbeats 4000000 in
theorem Tryz.fixDiv (a b : Int) (K : Nat) (hK : K ≤ 40) (w : World) (ha1 : -9223372036854775808 ≤ a) (ha2 : a < 9223372036854775808) (hb1 : -9223372036854775808 ≤ b) (hb2 : b < 9223372036854775808) (hb0 : b ≠ 0) :
    Calls Tryz.prog 145 #[.int .i64 a, .int .i64 b, .int .i64 (K : Int)] w fun e w' => e = .returned (.tuple #[.int .i64 (fitV (nearR (((a * ((2 ^ K : Nat) : Int) : Int) : Rat) / (b : Rat)))), .int .i64 (fitE (nearR (((a * ((2 ^ K : Nat) : Int) : Int) : Rat) / (b : Rat))))]) ∧ Ext w w' := by
  have hKF : fracB (K : Int) = true := decide_eq_true (by omega)
  obtain ⟨P, hP⟩ : ∃ P, P = 2 ^ K := ⟨_, rfl⟩
  have hP0 : 0 < P := by rw [hP]; exact Nat.two_pow_pos K
  have hPb : P ≤ 1099511627776 := by rw [hP]; exact Nat.le_trans (Nat.pow_le_pow_right (by omega) hK) (by decide)
  have hsh : IntKind.u64.wrap (2 ^ K) = (P : Int) := by rw [show ((2 : Int) ^ K) = ((2 ^ K : Nat) : Int) by simp, ← hP, IntKind.wrap_u64]; omega
  rw [← hP]
  rw [← near_quot a b P hb0]
  obtain ⟨N, hN⟩ : ∃ N, N = a.natAbs * P := ⟨_, rfl⟩
  rw [← hN]
  obtain ⟨A, hA⟩ : ∃ A, A = a.natAbs := ⟨_, rfl⟩
  obtain ⟨C, hC⟩ : ∃ C, C = b.natAbs := ⟨_, rfl⟩
  rw [← hC]
  have hN2 : N = A * P := by rw [hN, hA]
  have hX : N / 18446744073709551616 * B64 + N % 18446744073709551616 = N := by rw [B64_eq]; omega
  have hhi : N / 18446744073709551616 < 18446744073709551616 := by rw [hN2, Nat.div_lt_iff_lt_mul (by decide)]; exact Nat.lt_of_le_of_lt (Nat.mul_le_mul (show A ≤ 9223372036854775808 by omega) (show P ≤ 9223372036854775808 by omega)) (by decide)
  have hmul : ∀ W, Calls Tryz.prog 77 #[.int .u64 (A : Int), .int .u64 (P : Int)] W fun e w' => e = .returned (.tuple #[.int .u64 ((N / 18446744073709551616 : Nat) : Int), .int .u64 ((N % 18446744073709551616 : Nat) : Int)]) ∧ W = w' := fun W => by
    have := Tryz.mul64N A P (by omega) (by omega) W
    rw [← hN2] at this
    exact this.mono fun _ _ h => ⟨h.1, h.2.symm⟩
  obtain ⟨hi, hhi2⟩ : ∃ hi, hi = N / 18446744073709551616 := ⟨_, rfl⟩
  obtain ⟨lo, hlo2⟩ : ∃ lo, lo = N % 18446744073709551616 := ⟨_, rfl⟩
  have hlo : lo < 18446744073709551616 := by rw [hlo2]; exact Nat.mod_lt _ (by decide)
  rw [← hhi2, ← hlo2] at hX
  rw [← hhi2] at hhi
  rw [← hhi2, ← hlo2] at hmul
  have hby : ∀ (s : Bool) (W : World), Calls Tryz.prog 79 #[.bool s, .agg #[.int .u64 (hi : Int), .int .u64 (lo : Int)], .int .u64 (C : Int)] W fun e w' => e = .returned (.tuple #[.int .i64 (fitV (sgn s (nearN N C))), .int .i64 (fitE (sgn s (nearN N C)))]) ∧ Ext W w' := fun s W => by
    have := Tryz.fixBy s hi lo C W hhi hlo (by omega) (by omega)
    rwa [hX] at this
  have hsa : ∀ W, Calls Tryz.prog 78 #[.int .i64 a] W fun e w' => e = .returned (.int .u64 (A : Int)) ∧ W = w' := fun W => by rw [hA]; exact Tryz.fixSize a W ha1 ha2
  have hsb : ∀ W, Calls Tryz.prog 78 #[.int .i64 b] W fun e w' => e = .returned (.int .u64 (C : Int)) ∧ W = w' := fun W => by rw [hC]; exact Tryz.fixSize b W hb1 hb2
  have hb0I : (b == 0) = false := beq_eq_false_iff_ne.2 hb0
  clear hN hN2 hX hhi2 hlo2 hA hC hhi hlo hP hP0 hPb
  have HBY := Lib.hid hby
  have HMUL := Lib.hid hmul
  have HSA := Lib.hid hsa
  have HSB := Lib.hid hsb
  clear hby hmul hsa hsb
  by_cases ha : a < 0
  · by_cases hb : b < 0
    · have hda : decide (a < 0) = true := decide_eq_true ha
      have hdb : decide (b < 0) = true := decide_eq_true hb
      rw [hda, hdb, show (true != true) = false from rfl]
      obtain ⟨W0, hW0⟩ : ∃ W0, W0 = w := ⟨_, rfl⟩
      have E0 : Ext w W0 := by rw [hW0]; exact Ext.refl w
      go_enter Tryz.func145, Tryz.ntmps145
      go_wp2_with fail
      rw [← hW0]
      clear hW0
      refine (Tryz.fixIsFrac (K : Int) _).mono ?_
      rintro e Wc ⟨rfl, rfl⟩
      rw [hKF]
      go_upto_region 5 with (fail)
      have szw1 := Ext.size E0
      refine region_go [.one fun v _ => v = .int .i64 a,
          .one fun v _ => v = .int .u64 (A : Int),
          .one fun v _ => v = .int .i64 (K : Int),
          .one fun v _ => v = .int .u64 (P : Int),
          .one fun v _ => v = .tuple #[.int .u64 (hi : Int), .int .u64 (lo : Int)],
          .one fun v _ => v = .tuple #[.int .u64 (hi : Int), .int .u64 (lo : Int)],
          .one fun v _ => v = .int .u64 (hi : Int),
          .one fun v _ => v = .int .u64 (lo : Int),
          .one fun v _ => v = .int .u64 (hi : Int),
          .one fun v _ => v = .int .u64 (lo : Int)]
        (fun W => Ext w W ∧ W0.heap.size ≤ W.heap.size) ⟨Good.is _, Good.is _, Good.is _, Good.is _, Good.is _, Good.is _, Good.is _, Good.is _, Good.is _, Good.is _, trivial⟩
        (fun W W1 hS hE => ⟨(Ext.trans hS.1 hE), (Nat.le_trans hS.2 (Ext.size hE))⟩) ⟨E0, Nat.le_refl _⟩ (by kernel_rfl) (by kernel_rfl) (by kernel_rfl) (by kernel_rfl) (A := ?A1) ?hA1 ?howe1 ?hfin1
      case hA1 =>
        intro vs
        simp only [putAll, Act.put, List.setIfInBounds_toArray, List.set_cons_zero, List.set_cons_succ, Nat.zero_add, Nat.reduceAdd]
        exact rfl
      case howe1 =>
        clear E0
        intro hf
        refine ⟨owesE 0 [] hf rfl (by kernel_rfl) ?_, owesE 1 [0] hf rfl (by kernel_rfl) ?_, owesE 2 [] hf rfl (by kernel_rfl) ?_, owesE 3 [2] hf rfl (by kernel_rfl) ?_, owesE 4 [1, 3] hf rfl (by kernel_rfl) ?_, owesE 5 [4] hf rfl (by kernel_rfl) ?_, owesE 6 [5] hf rfl (by kernel_rfl) ?_, owesE 7 [5] hf rfl (by kernel_rfl) ?_, owesE 8 [6] hf rfl (by kernel_rfl) ?_, owesE 9 [7] hf rfl (by kernel_rfl) ?_, trivial⟩
        all_goals intro vs W hS hp hx KO hKO
        all_goals simp only [Act.put, List.setIfInBounds_toArray, List.set_cons_zero, List.set_cons_succ] at hKO
        · go_simp
          exact hKO _ W (Ext.refl W) rfl
        · have e0 := isOf hp.1
          simp only [e0] at hKO
          go_simp
          refine (HSA.out _).mono ?_
          rintro e W1 ⟨rfl, rfl⟩
          exact hKO _ W (Ext.refl W) rfl
        · go_simp
          exact hKO _ W (Ext.refl W) rfl
        · have e2 := isOf hp.1
          simp only [e2] at hKO
          go_simp
          exact hKO _ W (Ext.refl W) rfl
        · have e1 := isOf hp.1
          have e3 := isOf hp.2.1
          simp only [e1, e3] at hKO
          go_simp
          refine (HMUL.out _).mono ?_
          rintro e W1 ⟨rfl, rfl⟩
          exact hKO _ W (Ext.refl W) rfl
        · have e4 := isOf hp.1
          simp only [e4] at hKO
          go_simp
          exact hKO _ W (Ext.refl W) rfl
        · have e5 := isOf hp.1
          simp only [e5] at hKO
          go_simp
          exact hKO _ W (Ext.refl W) rfl
        · have e5 := isOf hp.1
          simp only [e5] at hKO
          go_simp
          exact hKO _ W (Ext.refl W) rfl
        · have e6 := isOf hp.1
          simp only [e6] at hKO
          go_simp
          exact hKO _ W (Ext.refl W) rfl
        · have e7 := isOf hp.1
          simp only [e7] at hKO
          go_simp
          exact hKO _ W (Ext.refl W) rfl
      intro vs W1 hS hp
      clear szw1 E0
      obtain ⟨E0, sz1⟩ := hS
      obtain ⟨h1_0, h1_1, h1_2, h1_3, h1_4, h1_5, h1_6, h1_7, h1_8, h1_9, -⟩ := hp
      replace h1_0 : vs 0 = .int .i64 a := h1_0
      replace h1_1 : vs 1 = .int .u64 (A : Int) := h1_1
      replace h1_2 : vs 2 = .int .i64 (K : Int) := h1_2
      replace h1_3 : vs 3 = .int .u64 (P : Int) := h1_3
      replace h1_4 : vs 4 = .tuple #[.int .u64 (hi : Int), .int .u64 (lo : Int)] := h1_4
      replace h1_5 : vs 5 = .tuple #[.int .u64 (hi : Int), .int .u64 (lo : Int)] := h1_5
      replace h1_6 : vs 6 = .int .u64 (hi : Int) := h1_6
      replace h1_7 : vs 7 = .int .u64 (lo : Int) := h1_7
      replace h1_8 : vs 8 = .int .u64 (hi : Int) := h1_8
      replace h1_9 : vs 9 = .int .u64 (lo : Int) := h1_9
      simp only [h1_0, h1_1, h1_2, h1_3, h1_4, h1_5, h1_6, h1_7, h1_8, h1_9]
      clear h1_0 h1_1 h1_2 h1_3 h1_4 h1_5 h1_6 h1_7 h1_8 h1_9
      go_wp2_with fail
      refine (HSB.out _).mono ?_
      rintro e Wc ⟨rfl, rfl⟩
      go_wp2_with fail
      refine (HBY.out false _).mono ?_
      rintro e Wc ⟨rfl, hE⟩
      replace E0 : Ext w Wc := (Ext.trans E0 hE)
      clear hE
      go_wp2
      go_ret2
      exact ⟨rfl, E0⟩
    · have hda : decide (a < 0) = true := decide_eq_true ha
      have hdb : decide (b < 0) = false := decide_eq_false hb
      rw [hda, hdb, show (true != false) = true from rfl]
      obtain ⟨W0, hW0⟩ : ∃ W0, W0 = w := ⟨_, rfl⟩
      have E0 : Ext w W0 := by rw [hW0]; exact Ext.refl w
      go_enter Tryz.func145, Tryz.ntmps145
      go_wp2_with fail
      rw [← hW0]
      clear hW0
      refine (Tryz.fixIsFrac (K : Int) _).mono ?_
      rintro e Wc ⟨rfl, rfl⟩
      rw [hKF]
      go_upto_region 5 with (fail)
      have szw2 := Ext.size E0
      refine region_go [.one fun v _ => v = .int .i64 a,
          .one fun v _ => v = .int .u64 (A : Int),
          .one fun v _ => v = .int .i64 (K : Int),
          .one fun v _ => v = .int .u64 (P : Int),
          .one fun v _ => v = .tuple #[.int .u64 (hi : Int), .int .u64 (lo : Int)],
          .one fun v _ => v = .tuple #[.int .u64 (hi : Int), .int .u64 (lo : Int)],
          .one fun v _ => v = .int .u64 (hi : Int),
          .one fun v _ => v = .int .u64 (lo : Int),
          .one fun v _ => v = .int .u64 (hi : Int),
          .one fun v _ => v = .int .u64 (lo : Int)]
        (fun W => Ext w W ∧ W0.heap.size ≤ W.heap.size) ⟨Good.is _, Good.is _, Good.is _, Good.is _, Good.is _, Good.is _, Good.is _, Good.is _, Good.is _, Good.is _, trivial⟩
        (fun W W1 hS hE => ⟨(Ext.trans hS.1 hE), (Nat.le_trans hS.2 (Ext.size hE))⟩) ⟨E0, Nat.le_refl _⟩ (by kernel_rfl) (by kernel_rfl) (by kernel_rfl) (by kernel_rfl) (A := ?A2) ?hA2 ?howe2 ?hfin2
      case hA2 =>
        intro vs
        simp only [putAll, Act.put, List.setIfInBounds_toArray, List.set_cons_zero, List.set_cons_succ, Nat.zero_add, Nat.reduceAdd]
        exact rfl
      case howe2 =>
        clear E0
        intro hf
        refine ⟨owesE 0 [] hf rfl (by kernel_rfl) ?_, owesE 1 [0] hf rfl (by kernel_rfl) ?_, owesE 2 [] hf rfl (by kernel_rfl) ?_, owesE 3 [2] hf rfl (by kernel_rfl) ?_, owesE 4 [1, 3] hf rfl (by kernel_rfl) ?_, owesE 5 [4] hf rfl (by kernel_rfl) ?_, owesE 6 [5] hf rfl (by kernel_rfl) ?_, owesE 7 [5] hf rfl (by kernel_rfl) ?_, owesE 8 [6] hf rfl (by kernel_rfl) ?_, owesE 9 [7] hf rfl (by kernel_rfl) ?_, trivial⟩
        all_goals intro vs W hS hp hx KO hKO
        all_goals simp only [Act.put, List.setIfInBounds_toArray, List.set_cons_zero, List.set_cons_succ] at hKO
        · go_simp
          exact hKO _ W (Ext.refl W) rfl
        · have e0 := isOf hp.1
          simp only [e0] at hKO
          go_simp
          refine (HSA.out _).mono ?_
          rintro e W1 ⟨rfl, rfl⟩
          exact hKO _ W (Ext.refl W) rfl
        · go_simp
          exact hKO _ W (Ext.refl W) rfl
        · have e2 := isOf hp.1
          simp only [e2] at hKO
          go_simp
          exact hKO _ W (Ext.refl W) rfl
        · have e1 := isOf hp.1
          have e3 := isOf hp.2.1
          simp only [e1, e3] at hKO
          go_simp
          refine (HMUL.out _).mono ?_
          rintro e W1 ⟨rfl, rfl⟩
          exact hKO _ W (Ext.refl W) rfl
        · have e4 := isOf hp.1
          simp only [e4] at hKO
          go_simp
          exact hKO _ W (Ext.refl W) rfl
        · have e5 := isOf hp.1
          simp only [e5] at hKO
          go_simp
          exact hKO _ W (Ext.refl W) rfl
        · have e5 := isOf hp.1
          simp only [e5] at hKO
          go_simp
          exact hKO _ W (Ext.refl W) rfl
        · have e6 := isOf hp.1
          simp only [e6] at hKO
          go_simp
          exact hKO _ W (Ext.refl W) rfl
        · have e7 := isOf hp.1
          simp only [e7] at hKO
          go_simp
          exact hKO _ W (Ext.refl W) rfl
      intro vs W2 hS hp
      clear szw2 E0
      obtain ⟨E0, sz2⟩ := hS
      obtain ⟨h2_0, h2_1, h2_2, h2_3, h2_4, h2_5, h2_6, h2_7, h2_8, h2_9, -⟩ := hp
      replace h2_0 : vs 0 = .int .i64 a := h2_0
      replace h2_1 : vs 1 = .int .u64 (A : Int) := h2_1
      replace h2_2 : vs 2 = .int .i64 (K : Int) := h2_2
      replace h2_3 : vs 3 = .int .u64 (P : Int) := h2_3
      replace h2_4 : vs 4 = .tuple #[.int .u64 (hi : Int), .int .u64 (lo : Int)] := h2_4
      replace h2_5 : vs 5 = .tuple #[.int .u64 (hi : Int), .int .u64 (lo : Int)] := h2_5
      replace h2_6 : vs 6 = .int .u64 (hi : Int) := h2_6
      replace h2_7 : vs 7 = .int .u64 (lo : Int) := h2_7
      replace h2_8 : vs 8 = .int .u64 (hi : Int) := h2_8
      replace h2_9 : vs 9 = .int .u64 (lo : Int) := h2_9
      simp only [h2_0, h2_1, h2_2, h2_3, h2_4, h2_5, h2_6, h2_7, h2_8, h2_9]
      clear h2_0 h2_1 h2_2 h2_3 h2_4 h2_5 h2_6 h2_7 h2_8 h2_9
      go_wp2_with fail
      refine (HSB.out _).mono ?_
      rintro e Wc ⟨rfl, rfl⟩
      go_wp2_with fail
      refine (HBY.out true _).mono ?_
      rintro e Wc ⟨rfl, hE⟩
      replace E0 : Ext w Wc := (Ext.trans E0 hE)
      clear hE
      go_wp2
      go_ret2
      exact ⟨rfl, E0⟩
  · by_cases hb : b < 0
    · have hda : decide (a < 0) = false := decide_eq_false ha
      have hdb : decide (b < 0) = true := decide_eq_true hb
      rw [hda, hdb, show (false != true) = true from rfl]
      obtain ⟨W0, hW0⟩ : ∃ W0, W0 = w := ⟨_, rfl⟩
      have E0 : Ext w W0 := by rw [hW0]; exact Ext.refl w
      go_enter Tryz.func145, Tryz.ntmps145
      go_wp2_with fail
      rw [← hW0]
      clear hW0
      refine (Tryz.fixIsFrac (K : Int) _).mono ?_
      rintro e Wc ⟨rfl, rfl⟩
      rw [hKF]
      go_upto_region 5 with (fail)
      have szw3 := Ext.size E0
      refine region_go [.one fun v _ => v = .int .i64 a,
          .one fun v _ => v = .int .u64 (A : Int),
          .one fun v _ => v = .int .i64 (K : Int),
          .one fun v _ => v = .int .u64 (P : Int),
          .one fun v _ => v = .tuple #[.int .u64 (hi : Int), .int .u64 (lo : Int)],
          .one fun v _ => v = .tuple #[.int .u64 (hi : Int), .int .u64 (lo : Int)],
          .one fun v _ => v = .int .u64 (hi : Int),
          .one fun v _ => v = .int .u64 (lo : Int),
          .one fun v _ => v = .int .u64 (hi : Int),
          .one fun v _ => v = .int .u64 (lo : Int)]
        (fun W => Ext w W ∧ W0.heap.size ≤ W.heap.size) ⟨Good.is _, Good.is _, Good.is _, Good.is _, Good.is _, Good.is _, Good.is _, Good.is _, Good.is _, Good.is _, trivial⟩
        (fun W W1 hS hE => ⟨(Ext.trans hS.1 hE), (Nat.le_trans hS.2 (Ext.size hE))⟩) ⟨E0, Nat.le_refl _⟩ (by kernel_rfl) (by kernel_rfl) (by kernel_rfl) (by kernel_rfl) (A := ?A3) ?hA3 ?howe3 ?hfin3
      case hA3 =>
        intro vs
        simp only [putAll, Act.put, List.setIfInBounds_toArray, List.set_cons_zero, List.set_cons_succ, Nat.zero_add, Nat.reduceAdd]
        exact rfl
      case howe3 =>
        clear E0
        intro hf
        refine ⟨owesE 0 [] hf rfl (by kernel_rfl) ?_, owesE 1 [0] hf rfl (by kernel_rfl) ?_, owesE 2 [] hf rfl (by kernel_rfl) ?_, owesE 3 [2] hf rfl (by kernel_rfl) ?_, owesE 4 [1, 3] hf rfl (by kernel_rfl) ?_, owesE 5 [4] hf rfl (by kernel_rfl) ?_, owesE 6 [5] hf rfl (by kernel_rfl) ?_, owesE 7 [5] hf rfl (by kernel_rfl) ?_, owesE 8 [6] hf rfl (by kernel_rfl) ?_, owesE 9 [7] hf rfl (by kernel_rfl) ?_, trivial⟩
        all_goals intro vs W hS hp hx KO hKO
        all_goals simp only [Act.put, List.setIfInBounds_toArray, List.set_cons_zero, List.set_cons_succ] at hKO
        · go_simp
          exact hKO _ W (Ext.refl W) rfl
        · have e0 := isOf hp.1
          simp only [e0] at hKO
          go_simp
          refine (HSA.out _).mono ?_
          rintro e W1 ⟨rfl, rfl⟩
          exact hKO _ W (Ext.refl W) rfl
        · go_simp
          exact hKO _ W (Ext.refl W) rfl
        · have e2 := isOf hp.1
          simp only [e2] at hKO
          go_simp
          exact hKO _ W (Ext.refl W) rfl
        · have e1 := isOf hp.1
          have e3 := isOf hp.2.1
          simp only [e1, e3] at hKO
          go_simp
          refine (HMUL.out _).mono ?_
          rintro e W1 ⟨rfl, rfl⟩
          exact hKO _ W (Ext.refl W) rfl
        · have e4 := isOf hp.1
          simp only [e4] at hKO
          go_simp
          exact hKO _ W (Ext.refl W) rfl
        · have e5 := isOf hp.1
          simp only [e5] at hKO
          go_simp
          exact hKO _ W (Ext.refl W) rfl
        · have e5 := isOf hp.1
          simp only [e5] at hKO
          go_simp
          exact hKO _ W (Ext.refl W) rfl
        · have e6 := isOf hp.1
          simp only [e6] at hKO
          go_simp
          exact hKO _ W (Ext.refl W) rfl
        · have e7 := isOf hp.1
          simp only [e7] at hKO
          go_simp
          exact hKO _ W (Ext.refl W) rfl
      intro vs W3 hS hp
      clear szw3 E0
      obtain ⟨E0, sz3⟩ := hS
      obtain ⟨h3_0, h3_1, h3_2, h3_3, h3_4, h3_5, h3_6, h3_7, h3_8, h3_9, -⟩ := hp
      replace h3_0 : vs 0 = .int .i64 a := h3_0
      replace h3_1 : vs 1 = .int .u64 (A : Int) := h3_1
      replace h3_2 : vs 2 = .int .i64 (K : Int) := h3_2
      replace h3_3 : vs 3 = .int .u64 (P : Int) := h3_3
      replace h3_4 : vs 4 = .tuple #[.int .u64 (hi : Int), .int .u64 (lo : Int)] := h3_4
      replace h3_5 : vs 5 = .tuple #[.int .u64 (hi : Int), .int .u64 (lo : Int)] := h3_5
      replace h3_6 : vs 6 = .int .u64 (hi : Int) := h3_6
      replace h3_7 : vs 7 = .int .u64 (lo : Int) := h3_7
      replace h3_8 : vs 8 = .int .u64 (hi : Int) := h3_8
      replace h3_9 : vs 9 = .int .u64 (lo : Int) := h3_9
      simp only [h3_0, h3_1, h3_2, h3_3, h3_4, h3_5, h3_6, h3_7, h3_8, h3_9]
      clear h3_0 h3_1 h3_2 h3_3 h3_4 h3_5 h3_6 h3_7 h3_8 h3_9
      go_wp2_with fail
      refine (HSB.out _).mono ?_
      rintro e Wc ⟨rfl, rfl⟩
      go_wp2_with fail
      refine (HBY.out true _).mono ?_
      rintro e Wc ⟨rfl, hE⟩
      replace E0 : Ext w Wc := (Ext.trans E0 hE)
      clear hE
      go_wp2
      go_ret2
      exact ⟨rfl, E0⟩
    · have hda : decide (a < 0) = false := decide_eq_false ha
      have hdb : decide (b < 0) = false := decide_eq_false hb
      rw [hda, hdb, show (false != false) = false from rfl]
      obtain ⟨W0, hW0⟩ : ∃ W0, W0 = w := ⟨_, rfl⟩
      have E0 : Ext w W0 := by rw [hW0]; exact Ext.refl w
      go_enter Tryz.func145, Tryz.ntmps145
      go_wp2_with fail
      rw [← hW0]
      clear hW0
      refine (Tryz.fixIsFrac (K : Int) _).mono ?_
      rintro e Wc ⟨rfl, rfl⟩
      rw [hKF]
      go_upto_region 5 with (fail)
      have szw4 := Ext.size E0
      refine region_go [.one fun v _ => v = .int .i64 a,
          .one fun v _ => v = .int .u64 (A : Int),
          .one fun v _ => v = .int .i64 (K : Int),
          .one fun v _ => v = .int .u64 (P : Int),
          .one fun v _ => v = .tuple #[.int .u64 (hi : Int), .int .u64 (lo : Int)],
          .one fun v _ => v = .tuple #[.int .u64 (hi : Int), .int .u64 (lo : Int)],
          .one fun v _ => v = .int .u64 (hi : Int),
          .one fun v _ => v = .int .u64 (lo : Int),
          .one fun v _ => v = .int .u64 (hi : Int),
          .one fun v _ => v = .int .u64 (lo : Int)]
        (fun W => Ext w W ∧ W0.heap.size ≤ W.heap.size) ⟨Good.is _, Good.is _, Good.is _, Good.is _, Good.is _, Good.is _, Good.is _, Good.is _, Good.is _, Good.is _, trivial⟩
        (fun W W1 hS hE => ⟨(Ext.trans hS.1 hE), (Nat.le_trans hS.2 (Ext.size hE))⟩) ⟨E0, Nat.le_refl _⟩ (by kernel_rfl) (by kernel_rfl) (by kernel_rfl) (by kernel_rfl) (A := ?A4) ?hA4 ?howe4 ?hfin4
      case hA4 =>
        intro vs
        simp only [putAll, Act.put, List.setIfInBounds_toArray, List.set_cons_zero, List.set_cons_succ, Nat.zero_add, Nat.reduceAdd]
        exact rfl
      case howe4 =>
        clear E0
        intro hf
        refine ⟨owesE 0 [] hf rfl (by kernel_rfl) ?_, owesE 1 [0] hf rfl (by kernel_rfl) ?_, owesE 2 [] hf rfl (by kernel_rfl) ?_, owesE 3 [2] hf rfl (by kernel_rfl) ?_, owesE 4 [1, 3] hf rfl (by kernel_rfl) ?_, owesE 5 [4] hf rfl (by kernel_rfl) ?_, owesE 6 [5] hf rfl (by kernel_rfl) ?_, owesE 7 [5] hf rfl (by kernel_rfl) ?_, owesE 8 [6] hf rfl (by kernel_rfl) ?_, owesE 9 [7] hf rfl (by kernel_rfl) ?_, trivial⟩
        all_goals intro vs W hS hp hx KO hKO
        all_goals simp only [Act.put, List.setIfInBounds_toArray, List.set_cons_zero, List.set_cons_succ] at hKO
        · go_simp
          exact hKO _ W (Ext.refl W) rfl
        · have e0 := isOf hp.1
          simp only [e0] at hKO
          go_simp
          refine (HSA.out _).mono ?_
          rintro e W1 ⟨rfl, rfl⟩
          exact hKO _ W (Ext.refl W) rfl
        · go_simp
          exact hKO _ W (Ext.refl W) rfl
        · have e2 := isOf hp.1
          simp only [e2] at hKO
          go_simp
          exact hKO _ W (Ext.refl W) rfl
        · have e1 := isOf hp.1
          have e3 := isOf hp.2.1
          simp only [e1, e3] at hKO
          go_simp
          refine (HMUL.out _).mono ?_
          rintro e W1 ⟨rfl, rfl⟩
          exact hKO _ W (Ext.refl W) rfl
        · have e4 := isOf hp.1
          simp only [e4] at hKO
          go_simp
          exact hKO _ W (Ext.refl W) rfl
        · have e5 := isOf hp.1
          simp only [e5] at hKO
          go_simp
          exact hKO _ W (Ext.refl W) rfl
        · have e5 := isOf hp.1
          simp only [e5] at hKO
          go_simp
          exact hKO _ W (Ext.refl W) rfl
        · have e6 := isOf hp.1
          simp only [e6] at hKO
          go_simp
          exact hKO _ W (Ext.refl W) rfl
        · have e7 := isOf hp.1
          simp only [e7] at hKO
          go_simp
          exact hKO _ W (Ext.refl W) rfl
      intro vs W4 hS hp
      clear szw4 E0
      obtain ⟨E0, sz4⟩ := hS
      obtain ⟨h4_0, h4_1, h4_2, h4_3, h4_4, h4_5, h4_6, h4_7, h4_8, h4_9, -⟩ := hp
      replace h4_0 : vs 0 = .int .i64 a := h4_0
      replace h4_1 : vs 1 = .int .u64 (A : Int) := h4_1
      replace h4_2 : vs 2 = .int .i64 (K : Int) := h4_2
      replace h4_3 : vs 3 = .int .u64 (P : Int) := h4_3
      replace h4_4 : vs 4 = .tuple #[.int .u64 (hi : Int), .int .u64 (lo : Int)] := h4_4
      replace h4_5 : vs 5 = .tuple #[.int .u64 (hi : Int), .int .u64 (lo : Int)] := h4_5
      replace h4_6 : vs 6 = .int .u64 (hi : Int) := h4_6
      replace h4_7 : vs 7 = .int .u64 (lo : Int) := h4_7
      replace h4_8 : vs 8 = .int .u64 (hi : Int) := h4_8
      replace h4_9 : vs 9 = .int .u64 (lo : Int) := h4_9
      simp only [h4_0, h4_1, h4_2, h4_3, h4_4, h4_5, h4_6, h4_7, h4_8, h4_9]
      clear h4_0 h4_1 h4_2 h4_3 h4_4 h4_5 h4_6 h4_7 h4_8 h4_9
      go_wp2_with fail
      refine (HSB.out _).mono ?_
      rintro e Wc ⟨rfl, rfl⟩
      go_wp2_with fail
      refine (HBY.out false _).mono ?_
      rintro e Wc ⟨rfl, hE⟩
      replace E0 : Ext w Wc := (Ext.trans E0 hE)
      clear hE
      go_wp2
      go_ret2
      exact ⟨rfl, E0⟩

end Go.Rt
