/-
  The signs of comparisons.
-/
import Derived.Test.YtkmilnnbmamknaaDyadC
import Derived.Test.YtkmilnnbmamknaaLaw05

namespace Go.Rt

open Go Go.RowKit Go.Proofs

theorem cmpR_le0 {x y : Rat} : cmpR x y ≤ 0 ↔ x ≤ y := by
  unfold cmpR
  by_cases h1 : x < y
  · rw [if_pos h1]; constructor; intro; grind; intro; omega
  · rw [if_neg h1]
    by_cases h2 : y < x
    · rw [if_pos h2]; constructor; intro h; omega; intro h; grind
    · rw [if_neg h2]; constructor; intro; grind; intro; omega

theorem Try.refRSameF6 {v1 v2 : Value} {x y : Rat} {w : World} (h1 : Rw w v1 x) (h2 : Rw w v2 y) (e : x ≠ y) : Calls Try.prog 11 #[v1, v2] w fun e w' => e = .returned (.bool false) ∧ Ext w w' := by
  have := Try.refRSame h1 h2
  rwa [decide_eq_false e] at this

theorem Try.refZSameF6 {v1 v2 : Value} {x y : Int} {w : World} (h1 : Zw w v1 x) (h2 : Zw w v2 y) (e : x ≠ y) : Calls Try.prog 16 #[v1, v2] w fun e w' => e = .returned (.bool false) ∧ Ext w w' := by
  have := Try.refZSame h1 h2
  rwa [decide_eq_false e] at this

end Go.Rt
