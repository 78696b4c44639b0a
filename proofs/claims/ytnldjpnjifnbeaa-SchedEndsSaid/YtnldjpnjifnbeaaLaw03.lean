/-
  The laws of chapter 03 (roots): their walks.
-/
import Derived.Test.YtnldjpnjifnbeaaGG
import Derived.Test.YtnldjpnjifnbeaaLaw02b

namespace Go.Rt

open Go.RowKit Go.Shelf Go.Proofs

end Go.Rt
