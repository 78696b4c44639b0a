/-
  nat.Bits; powers, by the program and by the reference.
  root.Root: Newton's steps; Up; Pow.
  root.Pow, root.Up; the reference's Pow, Root, Up.
-/
import Derived.Test.YtkmilnnbmamknaaGF
import Derived.Test.YtkmilnnbmamknaaGE
namespace Go.Rt

open Go.RowKit Go.Proofs

/-! powers -/

end Go.Rt

namespace Go.Rt

open Go.RowKit Go.Proofs

/-- Newton's step -/
def nx (A k X : Nat) : Nat := ((k - 1) * X + A / X ^ (k - 1)) / k

end Go.Rt

namespace Go.Rt
open Go.RowKit Go.Proofs

end Go.Rt
