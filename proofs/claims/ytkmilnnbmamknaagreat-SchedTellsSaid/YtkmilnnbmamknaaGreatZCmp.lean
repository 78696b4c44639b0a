/-
 The program's comparisons; quotients by nought.
-/
import Derived.Test.YtkmilnnbmamknaaGreatSqz
import Derived.Test.YtkmilnnbmamknaaGreatRight

namespace Go.Rt

open Go.RowKit Go.Proofs

theorem cmpI_swap {x y : Int} (h1 : x < 0) (h2 : y < 0) : cmpI (y.natAbs : Nat) (x.natAbs : Nat) = cmpI x y := by
 unfold cmpI
 by_cases ha : x < y
 ·rw [if_pos ha, if_pos (by omega)]
 ·rw [if_neg ha, if_neg (by omega)]
  by_cases hc : y < x
  ·rw [if_pos hc, if_pos (by omega)]
  ·rw [if_neg hc, if_neg (by omega)]

end Go.Rt
