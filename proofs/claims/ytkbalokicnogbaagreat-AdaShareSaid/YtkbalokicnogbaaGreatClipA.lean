/-
  Rows of rows: are there few; the sum of their squares by the document; one behind the other.
-/
import Derived.Test.YtkbalokicnogbaaGreatGO
import Derived.Test.YtkbalokicnogbaaGreatGJ
import Derived.Test.YtkbalokicnogbaaGreatGH
import Derived.Test.YtkbalokicnogbaaGreatFixD
import Derived.Lib.Walk
import Derived.Lib.AppendZerosOnto

namespace Go.Rt

open Go Go.RowKit Go.Proofs

theorem OwnI.block {W : World} {base : Nat} {e : TypeId} {v : Value} {l : List Int} (h : OwnI W base e v l) : ∀ g, v.ownBlock = some g → base ≤ g ∧ g < W.heap.size := by
  intro g hg
  rcases h.2 with ⟨rfl, -⟩ | ⟨b, cap, cur, rfl, hb, hk, -⟩
  · cases hg
  · cases hg
    exact ⟨hb, (Array.getElem?_eq_some_iff.1 hk).1⟩

theorem Nw.empty (w : World) (t : TypeId) : Nw (w.alloc (.cells #[] t)) (.slice (some ⟨w.heap.size, 0, none⟩) 0 0) 0 :=
  ⟨[], ⟨_, w.heap.size, 0, 0, rfl, ⟨.inl rfl, Nat.le_refl _, Nat.zero_le _, fun _ hi => absurd hi (Nat.not_lt_zero _)⟩, Lim.nil _⟩, .inl rfl, rfl⟩

end Go.Rt
