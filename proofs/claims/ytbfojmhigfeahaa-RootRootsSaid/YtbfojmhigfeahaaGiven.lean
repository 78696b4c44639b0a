/-
  The law's 'given': are these numbers right, and of few limbs? And 'alive'.
-/
import Derived.Test.YtbfojmhigfeahaaDivH
namespace Go.Rt
open Go.RowKit Go.Shelf Go.Proofs

def gvn (xss : List (List Nat)) : Bool := xss.all fun xs => decide (xs.length ≤ 20) && normB xs
theorem gvn_cons (xs : List Nat) (r : List (List Nat)) : gvn (xs :: r) = (decide (xs.length ≤ 20) && normB xs && gvn r) := by simp [gvn]

end Go.Rt
