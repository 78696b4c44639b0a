/-
  Four laws more of chapter 03: their walks.
-/
import Derived.Test.YtnldjpnjifnbeaaLaw03

namespace Go.Rt

open Go.RowKit Go.Shelf Go.Proofs

end Go.Rt
