/-
  The laws of chapter 02: their walks.
  Two laws more of chapter 02: their walks.
  The laws of chapter 03 (roots): their walks.
  Four laws more of chapter 03: their walks.
  Two laws more of chapter 03: their walks.
-/
import Derived.Test.YthmncdhibcoiaaaGreatGE
import Derived.Test.YthmncdhibcoiaaaGreatGG
namespace Go.Rt

open Go.RowKit Go.Shelf Go.Proofs

end Go.Rt

namespace Go.Rt

open Go.RowKit Go.Shelf Go.Proofs

end Go.Rt

namespace Go.Rt

open Go.RowKit Go.Shelf Go.Proofs

theorem rootU_in {A : Nat} {k : Int} (h : 1 ≤ k ∧ k ≤ 16) : rootU A k = rtUp A k.toNat := if_pos h

end Go.Rt

namespace Go.Rt

open Go.RowKit Go.Shelf Go.Proofs

end Go.Rt

namespace Go.Rt

open Go.RowKit Go.Shelf Go.Proofs

theorem rtUp_sm {A L k : Nat} (hk : 1 ≤ k) (s : Sm L A) : Sm (L + 1) (rtUp A k) := by
  have h := rt_le (a := A) hk
  have h2 : rtUp A k ≤ A + 1 := by unfold rtUp; split <;> omega
  unfold Sm at *
  have h3 : B64 ^ L * 2 ≤ B64 ^ (L + 1) := by rw [Nat.pow_succ]; exact Nat.mul_le_mul_left _ B64_two_le
  have h4 : 0 < B64 ^ L := Nat.pow_pos B64_pos
  omega

end Go.Rt
