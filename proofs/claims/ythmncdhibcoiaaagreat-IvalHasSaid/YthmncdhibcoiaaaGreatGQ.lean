/-
  Boxes of many cells that a drawn region makes: an Adam's six, four rows; one cell put anew.
  A region whose last store goes into a box that it read ahead: what the box held stays told until then.
-/
import Derived.Test.YthmncdhibcoiaaaGreatIrow
import Derived.Test.YthmncdhibcoiaaaGreatInv2
namespace Go.Rt

open Go Go.RowKit Go.Proofs

theorem BxA.putN {W : World} {b : Nat} {t : TypeId} {xs : Array Value} (h : BxA W b t xs) (i : Nat) (v : Value) : BxA (W.setCell ⟨b, i, none⟩ v) b t (xs.setIfInBounds i v) := by
  unfold BxA at h ⊢
  simp [World.setCell, h, Array.getElem?_modify]

theorem BxA.frozN {W : World} {b : Nat} {t : TypeId} {xs : Array Value} (h : BxA W b t xs) (i : Nat) : W.frozen? ⟨b, i, none⟩ = false := by simp [World.frozen?, show W.heap[b]? = _ from h]

theorem Wr.putN {W : World} {g : Nat} {t : TypeId} {xs : Array Value} (h : BxA W g t xs) (hn : NoU xs) (i : Nat) (v : Value) (hv : NoU (xs.setIfInBounds i v)) : Wr g W (W.setCell ⟨g, i, none⟩ v) :=
  ⟨Apart.setCell (p := ⟨g, i, none⟩) _ (by simp) _, ⟨_, t, h, hn⟩, fun cs t' hc => by
    rw [show W.heap[g]? = _ from h] at hc
    cases hc
    exact ⟨_, BxA.putN h i v, hv, by simp⟩⟩

end Go.Rt

namespace Go.Rt

open Go Go.RowKit Go.Proofs

section

variable {P : Program} {Q : Exit → Act → World → Prop} {md : Region.Mode} {l : List Oper} {a0 : Act} {S R : World → Prop} {ps : List PS} {A : (Nat → Value) → Act} {B g0 ks : Nat} {ms : List Nat} {ts : List Tag}

end

end Go.Rt
