/-
  The law's 'given': are these numbers right, and of few limbs? And 'alive'.
-/
import Derived.Test.YtnldjpnjifnbeaaGE

namespace Go.Rt

open Go.RowKit Go.Shelf Go.Proofs

end Go.Rt
