/-
  Adam in numbers: sums, products, quotients that may not be there; a place's step; what is right.
-/
import Derived.Test.YtkbalokicnogbaaGreatGS

namespace Go.Rt

def okZ (z : Int) : Option Int := if fits z = true then some z else none

theorem okZ_some {z y : Int} (h : okZ z = some y) : fits z = true ∧ z = y := by
  unfold okZ at h
  split at h
  · exact ⟨‹_›, by simpa using h⟩
  · cases h

theorem okZ_fits {z y : Int} (h : okZ z = some y) : -9223372036854775808 ≤ y ∧ y < 9223372036854775808 := by
  obtain ⟨h1, rfl⟩ := okZ_some h
  exact fits_iff.1 h1

theorem okZ_in {z : Int} (h1 : -9223372036854775808 ≤ z) (h2 : z < 9223372036854775808) : okZ z = some z := if_pos (fits_iff.2 ⟨h1, h2⟩)

def mulZ (K : Nat) (a b : Int) : Int := ratioV (a * b) (2 ^ K)

def divZ (K : Nat) (a b : Int) : Int := nearR (((a * ((2 ^ K : Nat) : Int) : Int) : Rat) / (b : Rat))

def mulO (K : Nat) (a b : Int) : Option Int := okZ (mulZ K a b)

def divO (K : Nat) (a b : Int) : Option Int := okZ (divZ K a b)

def addO (a b : Int) : Option Int := okZ (a + b)

def oneZ (K : Nat) : Int := ((2 ^ K : Nat) : Int)

theorem one_pos (K : Nat) : 0 < oneZ K := by unfold oneZ; have := Nat.pow_pos (n := K) (show 0 < 2 by omega); omega

theorem one_max {K : Nat} (h : K ≤ 40) : oneZ K ≤ 1099511627776 := by
  unfold oneZ
  have : 2 ^ K ≤ 1099511627776 := Nat.le_trans (Nat.pow_le_pow_right (by omega) h) (by decide)
  omega

end Go.Rt
