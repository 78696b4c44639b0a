/-
 Intervals: rounded outward; roots, by definition; what is refused.
-/
import Derived.Test.YthmncdhibcoiaaaGreatSqz
import Derived.Test.YthmncdhibcoiaaaGreatIvC

namespace Go.Rt

open Go Go.RowKit Go.Proofs

theorem cmpR_lt0 {x y : Rat} : cmpR x y < 0 ↔ x < y := by
 unfold cmpR
 split
 ·rename_i h; exact ⟨fun _ => h, fun _ => by omega⟩
 ·rename_i h
  split
  ·exact ⟨fun h1 => absurd h1 (by omega), fun h1 => absurd h1 h⟩
  ·exact ⟨fun h1 => absurd h1 (by omega), fun h1 => absurd h1 h⟩

end Go.Rt
