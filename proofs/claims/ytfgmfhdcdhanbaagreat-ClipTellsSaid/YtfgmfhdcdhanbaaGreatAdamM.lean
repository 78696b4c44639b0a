/-
  Adam in numbers: sums, products, quotients that may not be there; a place's step; what is right.
-/
import Derived.Test.YtfgmfhdcdhanbaaGreatGS

namespace Go.Rt

def oneZ (K : Nat) : Int := ((2 ^ K : Nat) : Int)

theorem one_pos (K : Nat) : 0 < oneZ K := by unfold oneZ; have := Nat.pow_pos (n := K) (show 0 < 2 by omega); omega

end Go.Rt
