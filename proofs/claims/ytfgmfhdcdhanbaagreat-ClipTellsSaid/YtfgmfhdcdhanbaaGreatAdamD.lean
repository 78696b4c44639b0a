/-
 Adam: which are right, and a step of rows, or why there is none, by the program.
-/
import Derived.Test.YtfgmfhdcdhanbaaGreatSqz
import Derived.Test.YtfgmfhdcdhanbaaGreatAdamB
import Derived.Recover
import Derived.Laws.Pointers

namespace Go.Rt

open Go Go.RowKit Go.Proofs

theorem grow_all {p : Nat → Prop} {k : Nat} (h : ∀ j, j < k → p j) (hk : p k) : ∀ j, j < k + 1 → p j := fun j hj => by
 rcases Nat.lt_or_ge j k with h1 | h1
 ·exact h j h1
 ·obtain rfl : j = k := by omega
  exact hk

end Go.Rt
