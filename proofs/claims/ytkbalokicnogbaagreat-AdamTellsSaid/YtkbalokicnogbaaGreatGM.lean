/-
  nat.Sub: a difference, limb by limb.
  The program's integers: made, Neg, Mul, Of, Add, Cmp, Int.
-/
import Derived.Test.YtkbalokicnogbaaGreatGF
import Derived.Test.YtkbalokicnogbaaGreatGY
import Derived.Test.YtkbalokicnogbaaGreatGL
namespace Go.Rt

open Go.RowKit Go.Shelf Go.Proofs

attribute [local go_sem] Oper.semAt_some

end Go.Rt

namespace Go.Rt

open Go.RowKit Go.Proofs

theorem sgn_of {n : Int} : sgn (decide (n < 0)) n.natAbs = n := by
 unfold sgn
 by_cases h : n < 0
 ·rw [decide_eq_true h]; simp; omega
 ·rw [decide_eq_false h]; simp; omega

end Go.Rt
