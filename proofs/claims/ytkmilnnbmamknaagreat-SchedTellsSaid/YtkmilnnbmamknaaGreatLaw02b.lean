/-
  Two laws more of chapter 02: their walks.
-/
import Derived.Test.YtkmilnnbmamknaaGreatLaw02
namespace Go.Rt
open Go.RowKit Go.Shelf Go.Proofs

theorem beq0 {n : Nat} (h : n = 0) : ((n : Int) == 0) = true := by simp [h]

theorem bne0 {n : Nat} (h : n ≠ 0) : ((n : Int) == 0) = false := beq_eq_false_iff_ne.2 (by omega)

end Go.Rt
