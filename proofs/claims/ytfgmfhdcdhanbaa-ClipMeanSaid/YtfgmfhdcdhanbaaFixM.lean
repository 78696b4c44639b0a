/-
  Plain laws on numbers of a fixed point.
-/
import Derived.Test.YtfgmfhdcdhanbaaGI

namespace Go.Rt

open Go

/-- does it fit into 64 bits? what is told of it -/
def fits (z : Int) : Bool := decide (-9223372036854775808 ≤ z ∧ z < 9223372036854775808)

def fitV (z : Int) : Int := if fits z = true then z else 0

def fitE (z : Int) : Int := if fits z = true then 0 else 2

theorem fits_iff {z : Int} : fits z = true ↔ -9223372036854775808 ≤ z ∧ z < 9223372036854775808 := by unfold fits; exact decide_eq_true_iff

theorem fitV_in {z : Int} (h : fits z = true) : fitV z = z := if_pos h

theorem fitE_in {z : Int} (h : fits z = true) : fitE z = 0 := if_pos h

theorem fitV_out {z : Int} (h : fits z = false) : fitV z = 0 := if_neg (by rw [h]; simp)

theorem fitE_out {z : Int} (h : fits z = false) : fitE z = 2 := if_neg (by rw [h]; simp)

end Go.Rt
