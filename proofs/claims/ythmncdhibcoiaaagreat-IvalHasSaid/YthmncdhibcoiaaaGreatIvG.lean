/-
  Intervals, by definition: around some numbers; products.
-/
import Derived.Test.YthmncdhibcoiaaaGreatIvF

namespace Go.Rt

open Go Go.RowKit Go.Proofs

section

variable {W : World} {g : Nat} {t : TypeId} {b : Bool} {a : Option Addr} {n c : Nat} {d : Option Addr} {m o : Nat} {b2 : Bool} {a2 : Option Addr} {n2 c2 : Nat} {d2 : Option Addr} {m2 o2 : Nat}
theorem Bx6.lo6 (h : Bx6 W g t (.bool b) (.slice a n c) (.slice d m o) (.bool b2) (.slice a2 n2 c2) (.slice d2 m2 o2)) (s : Bool) (x : Option Addr) (y z : Nat) (x' : Option Addr) (y' z' : Nat) :
    ∃ W', W' = ((W.setCell ⟨g, 0, none⟩ (.bool s)).setCell ⟨g, 1, none⟩ (.slice x y z)).setCell ⟨g, 2, none⟩ (.slice x' y' z') ∧ Wr g W W' ∧ Bx6 W' g t (.bool s) (.slice x y z) (.slice x' y' z') (.bool b2) (.slice a2 n2 c2) (.slice d2 m2 o2) := by
  have hp : Bx6 (((W.setCell ⟨g, 0, none⟩ (.bool s)).setCell ⟨g, 1, none⟩ (.slice x y z)).setCell ⟨g, 2, none⟩ (.slice x' y' z')) g t (.bool s) (.slice x y z) (.slice x' y' z') (.bool b2) (.slice a2 n2 c2) (.slice d2 m2 o2) :=
    BxA.put (BxA.put (BxA.put h 0 (.bool s)) 1 (.slice x y z)) 2 (.slice x' y' z')
  refine ⟨_, rfl, ⟨((Apart.setCell (p := ⟨g, 0, none⟩) _ (by simp) _).trans (Apart.setCell (p := ⟨g, 1, none⟩) _ (by simp) _)).trans (Apart.setCell (p := ⟨g, 2, none⟩) _ (by simp) _), ⟨_, t, h, noU6 _ _ _ _ _ _ _ _ _ _ _ _ _ _⟩, fun cs t' hc => ?_⟩, hp⟩
  rw [show W.heap[g]? = _ from h] at hc
  cases hc
  exact ⟨_, hp, noU6 _ _ _ _ _ _ _ _ _ _ _ _ _ _, rfl⟩

end

end Go.Rt
