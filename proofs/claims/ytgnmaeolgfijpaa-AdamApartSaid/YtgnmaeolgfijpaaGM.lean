/-
  nat.Sub: a difference, limb by limb.
  The program's integers: made, Neg, Mul, Of, Add, Cmp, Int.
-/
import Derived.Test.YtgnmaeolgfijpaaGF
import Derived.Test.YtgnmaeolgfijpaaGY
import Derived.Test.YtgnmaeolgfijpaaGL
namespace Go.Rt

open Go.RowKit Go.Shelf Go.Proofs

attribute [local go_sem] Oper.semAt_some

end Go.Rt

namespace Go.Rt

open Go.RowKit Go.Proofs

end Go.Rt
