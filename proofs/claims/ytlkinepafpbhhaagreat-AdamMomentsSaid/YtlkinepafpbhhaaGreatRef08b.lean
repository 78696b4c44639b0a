/-
  Numbers of a fixed point by definition: products, quotients, scaled, roots.
-/
import Derived.Test.YtlkinepafpbhhaaGreatRef08

namespace Go.Rt

open Go.RowKit Go.Proofs

theorem SmR.backP {a : Int} (h : Sm 1 a.natAbs) {K : Nat} (hK : K ≤ 41) : SmR 2 ((a : Rat) / P2 K) := by
  rw [← back_eq]
  exact (SmR.back h K).mono (by omega)

end Go.Rt
