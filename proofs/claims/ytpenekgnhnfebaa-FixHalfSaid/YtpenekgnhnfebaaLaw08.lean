/-
  The laws of chapter 08 (numbers of a fixed point): Agree, Sides, Order: their walks.
-/
import Derived.Test.YtpenekgnhnfebaaFixD

namespace Go.Rt

open Go.RowKit Go.Proofs

theorem fitE_0 {a : Int} (h : fitE a = 0) : fitV a = a := by
  cases hq : fits a
  · rw [fitE_out hq] at h; cases h
  · exact fitV_in hq

theorem fitE_2 {a : Int} : fitE a = 0 ∨ fitE a = 2 := by
  cases hq : fits a
  · exact Or.inr (fitE_out hq)
  · exact Or.inl (fitE_in hq)

end Go.Rt
