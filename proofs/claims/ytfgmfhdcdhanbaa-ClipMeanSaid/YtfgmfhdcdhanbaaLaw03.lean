/-
  The laws of chapter 03 (roots): their walks.
-/
import Derived.Test.YtfgmfhdcdhanbaaGG
import Derived.Test.YtfgmfhdcdhanbaaLaw02

namespace Go.Rt

open Go.RowKit Go.Shelf Go.Proofs

theorem rootU_in {A : Nat} {k : Int} (h : 1 ≤ k ∧ k ≤ 16) : rootU A k = rtUp A k.toNat := if_pos h

end Go.Rt
