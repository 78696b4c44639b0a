/-
  The laws of chapter 08 (numbers of a fixed point): Agree, Sides, Order: their walks.
-/
import Derived.Test.YtnldjpnjifnbeaaGreatFixD

namespace Go.Rt

open Go.RowKit Go.Proofs

end Go.Rt
