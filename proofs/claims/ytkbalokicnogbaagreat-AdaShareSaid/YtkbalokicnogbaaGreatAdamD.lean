/-
 Adam: which are right, and a step of rows, or why there is none, by the program.
-/
import Derived.Test.YtkbalokicnogbaaGreatSqz
import Derived.Test.YtkbalokicnogbaaGreatAdamB
import Derived.Recover
import Derived.Laws.Pointers

namespace Go.Rt

open Go Go.RowKit Go.Proofs

theorem grow_all {p : Nat → Prop} {k : Nat} (h : ∀ j, j < k → p j) (hk : p k) : ∀ j, j < k + 1 → p j := fun j hj => by
 rcases Nat.lt_or_ge j k with h1 | h1
 ·exact h j h1
 ·obtain rfl : j = k := by omega
  exact hk

/-- is one below nought? -/
def negB (l : List Int) : Bool := l.any fun x => decide (x < 0)

theorem negB_true {l : List Int} {i : Nat} (hi : i < l.length) (h : atL l i < 0) : negB l = true := by
 unfold negB
 rw [List.any_eq_true]
 exact ⟨atL l i, atL_mem hi, decide_eq_true h⟩

theorem negB_false {l : List Int} (h : ∀ i, i < l.length → ¬ atL l i < 0) : negB l = false := by
 unfold negB
 rw [List.any_eq_false]
 intro x hx
 obtain ⟨i, hi, rfl⟩ := List.getElem_of_mem hx
 have := h i hi
 rw [atL_eq hi] at this
 simpa using this

end Go.Rt
