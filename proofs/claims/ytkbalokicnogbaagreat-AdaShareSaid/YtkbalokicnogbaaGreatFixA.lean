/-
  Numbers of a fixed point: size, sided, by.
-/
import Derived.Test.YtkbalokicnogbaaGreatGS
import Derived.Test.YtkbalokicnogbaaGreatMul64
import Derived.Test.YtkbalokicnogbaaGreatDiv64
import Derived.Test.YtkbalokicnogbaaGreatGF
namespace Go.Rt
open Go.RowKit Go.Proofs

/-- is there such an f? -/
def fracB (f : Int) : Bool := decide (0 ≤ f ∧ f ≤ 40)

set_option maxHeartbeats 400000 in
theorem Tryz.fixIsFrac (f : Int) (w : World) : Calls Tryz.prog 76 #[.int .i64 f] w fun e w' => e = .returned (.bool (fracB f)) ∧ w = w' := by
  by_cases h1 : 0 ≤ f
  · by_cases h2 : f ≤ 40
    · have HR : Hid (true = fracB f) := Lib.hid (decide_eq_true (p := 0 ≤ f ∧ f ≤ 40) ⟨h1, h2⟩).symm
      go_enter Tryz.func76, Tryz.ntmps76
      go_wp2
      all_goals go_ret
      all_goals exact ⟨ret_b HR.out, rfl⟩
    · have HR : Hid (false = fracB f) := Lib.hid (decide_eq_false (p := 0 ≤ f ∧ f ≤ 40) (fun h => h2 h.2)).symm
      have h2' : decide (f ≤ 40) = false := decide_eq_false h2
      go_enter Tryz.func76, Tryz.ntmps76
      go_wp2
      all_goals go_ret
      all_goals exact ⟨ret_b HR.out, rfl⟩
  · have HR : Hid (false = fracB f) := Lib.hid (decide_eq_false (p := 0 ≤ f ∧ f ≤ 40) (fun h => h1 h.1)).symm
    have h1' : decide (0 ≤ f) = false := decide_eq_false h1
    go_enter Tryz.func76, Tryz.ntmps76
    go_wp2
    all_goals go_ret
    all_goals exact ⟨ret_b HR.out, rfl⟩

set_option maxHeartbeats 400000 in
theorem Tryz.fixSize (n : Int) (w : World) (h1 : -9223372036854775808 ≤ n) (h2 : n < 9223372036854775808) :
    Calls Tryz.prog 78 #[.int .i64 n] w fun e w' => e = .returned (.int .u64 ((n.natAbs : Nat) : Int)) ∧ w = w' := by
  obtain ⟨M, hM⟩ : ∃ M, M = n.natAbs := ⟨_, rfl⟩
  rw [← hM]
  by_cases hn : n < 0
  · have hM2 : n = -(M : Int) := by omega
    subst hM2
    have hM0 : 0 < M := by omega
    have e1 : IntKind.u64.wrap (-(M : Int)) = 18446744073709551616 - (M : Int) := by rw [IntKind.wrap_u64]; omega
    have e2 : IntKind.u64.wrap (-(18446744073709551616 - (M : Int))) = (M : Int) := by rw [IntKind.wrap_u64]; omega
    clear hM
    go_enter Tryz.func78, Tryz.ntmps78
    go_wp2
    all_goals go_ret
    all_goals exact ⟨rfl, rfl⟩
  · have hM2 : n = (M : Int) := by omega
    subst hM2
    have e1 : IntKind.u64.wrap (M : Int) = (M : Int) := by rw [IntKind.wrap_u64]; omega
    clear hM
    go_enter Tryz.func78, Tryz.ntmps78
    go_wp2
    all_goals go_ret
    all_goals exact ⟨rfl, rfl⟩

set_option maxHeartbeats 400000 in
theorem Tryz.fixSided (b : Bool) (N : Nat) (w : World) (h : N < 18446744073709551616) :
    Calls Tryz.prog 130 #[.bool b, .int .u64 (N : Int)] w fun e w' => e = .returned (.tuple #[.int .i64 (fitV (sgn b N)), .int .i64 (fitE (sgn b N))]) ∧ w = w' := by
  cases b
  · by_cases hf : N ≤ 9223372036854775807
    · have hfI : (N : Int) ≤ 9223372036854775807 := by omega
      have hfit : fits (sgn false N) = true := fits_iff.2 (by unfold sgn; simp; omega)
      have HV : Hid (fitV (sgn false N) = (N : Int)) := Lib.hid (fitV_in hfit)
      have HE : Hid (fitE (sgn false N) = 0) := Lib.hid (fitE_in hfit)
      have e1 : IntKind.i64.wrap (N : Int) = (N : Int) := by rw [IntKind.wrap_i64]; omega
      clear hfit
      go_enter Tryz.func130, Tryz.ntmps130
      go_wp2
      go_ret2
      exact ⟨by rw [HV.out, HE.out]; rfl, rfl⟩
    · have hfI : ¬ (N : Int) ≤ 9223372036854775807 := by omega
      have hfd : decide (N ≤ 9223372036854775807) = false := decide_eq_false hf
      have hfd2 : decide ((N : Int) ≤ 9223372036854775807) = false := decide_eq_false hfI
      have hfit : fits (sgn false N) = false := by cases hq : fits (sgn false N); rfl; have := fits_iff.1 hq; unfold sgn at this; simp at this; omega
      have HV : Hid (fitV (sgn false N) = 0) := Lib.hid (fitV_out hfit)
      have HE : Hid (fitE (sgn false N) = 2) := Lib.hid (fitE_out hfit)
      clear hfit
      go_enter Tryz.func130, Tryz.ntmps130
      go_wp2
      go_ret2
      exact ⟨by rw [HV.out, HE.out]; rfl, rfl⟩
  · by_cases hf : N ≤ 9223372036854775808
    · have hfI : (N : Int) ≤ 9223372036854775808 := by omega
      have hfit : fits (sgn true N) = true := fits_iff.2 (by unfold sgn; simp; omega)
      have HV : Hid (fitV (sgn true N) = -(N : Int)) := Lib.hid (fitV_in hfit)
      have HE : Hid (fitE (sgn true N) = 0) := Lib.hid (fitE_in hfit)
      have e1 : IntKind.i64.wrap (IntKind.u64.wrap (-(N : Int))) = -(N : Int) := by rw [IntKind.wrap_u64, IntKind.wrap_i64]; omega
      clear hfit
      go_enter Tryz.func130, Tryz.ntmps130
      go_wp2
      go_ret2
      exact ⟨by rw [HV.out, HE.out]; rfl, rfl⟩
    · have hfI : ¬ (N : Int) ≤ 9223372036854775808 := by omega
      have hfd : decide (N ≤ 9223372036854775808) = false := decide_eq_false hf
      have hfd2 : decide ((N : Int) ≤ 9223372036854775808) = false := decide_eq_false hfI
      have hfit : fits (sgn true N) = false := by cases hq : fits (sgn true N); rfl; have := fits_iff.1 hq; unfold sgn at this; simp at this; omega
      have HV : Hid (fitV (sgn true N) = 0) := Lib.hid (fitV_out hfit)
      have HE : Hid (fitE (sgn true N) = 2) := Lib.hid (fitE_out hfit)
      clear hfit
      go_enter Tryz.func130, Tryz.ntmps130
      go_wp2
      go_ret2
      exact ⟨by rw [HV.out, HE.out]; rfl, rfl⟩
end Go.Rt
