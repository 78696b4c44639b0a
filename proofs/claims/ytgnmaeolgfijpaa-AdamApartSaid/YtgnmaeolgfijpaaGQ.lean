/-
  Boxes of many cells that a drawn region makes: an Adam's six, four rows; one cell put anew.
  A region whose last store goes into a box that it read ahead: what the box held stays told until then.
-/
import Derived.Test.YtgnmaeolgfijpaaIrow
import Derived.Test.YtgnmaeolgfijpaaInv2
namespace Go.Rt

open Go Go.RowKit Go.Proofs

theorem BxA.putN {W : World} {b : Nat} {t : TypeId} {xs : Array Value} (h : BxA W b t xs) (i : Nat) (v : Value) : BxA (W.setCell ⟨b, i, none⟩ v) b t (xs.setIfInBounds i v) := by
  unfold BxA at h ⊢
  simp [World.setCell, h, Array.getElem?_modify]

theorem BxA.frozN {W : World} {b : Nat} {t : TypeId} {xs : Array Value} (h : BxA W b t xs) (i : Nat) : W.frozen? ⟨b, i, none⟩ = false := by simp [World.frozen?, show W.heap[b]? = _ from h]

theorem Wr.putN {W : World} {g : Nat} {t : TypeId} {xs : Array Value} (h : BxA W g t xs) (hn : NoU xs) (i : Nat) (v : Value) (hv : NoU (xs.setIfInBounds i v)) : Wr g W (W.setCell ⟨g, i, none⟩ v) :=
  ⟨Apart.setCell (p := ⟨g, i, none⟩) _ (by simp) _, ⟨_, t, h, hn⟩, fun cs t' hc => by
    rw [show W.heap[g]? = _ from h] at hc
    cases hc
    exact ⟨_, BxA.putN h i v, hv, by simp⟩⟩

theorem Form.put4 {W : World} {g : Nat} {t : TypeId} (h : Form W g t 4) (v0 v1 v2 v3 : Value) (hn : NoU #[v0, v1, v2, v3]) :
    ∃ x0 x1 x2 x3, W.cell? ⟨g, 0, none⟩ = some x0 ∧ W.cell? ⟨g, 1, none⟩ = some x1 ∧ W.cell? ⟨g, 2, none⟩ = some x2 ∧ W.cell? ⟨g, 3, none⟩ = some x3 ∧ (∀ i, W.frozen? ⟨g, i, none⟩ = false) ∧
      ∃ W', W' = (((W.setCell ⟨g, 0, none⟩ v0).setCell ⟨g, 1, none⟩ v1).setCell ⟨g, 2, none⟩ v2).setCell ⟨g, 3, none⟩ v3 ∧ Wr g W W' ∧ BxA W' g t #[v0, v1, v2, v3] := by
  obtain ⟨cs, h1, h2, h3⟩ := h
  obtain ⟨l⟩ := cs
  match l, h3 with
  | [x0, x1, x2, x3], _ =>
    have hb : BxA W g t #[x0, x1, x2, x3] := h1
    have hq : BxA ((((W.setCell ⟨g, 0, none⟩ v0).setCell ⟨g, 1, none⟩ v1).setCell ⟨g, 2, none⟩ v2).setCell ⟨g, 3, none⟩ v3) g t #[v0, v1, v2, v3] :=
      BxA.putN (BxA.putN (BxA.putN (BxA.putN hb 0 v0) 1 v1) 2 v2) 3 v3
    refine ⟨x0, x1, x2, x3, BxA.cell hb 0 rfl, BxA.cell hb 1 rfl, BxA.cell hb 2 rfl, BxA.cell hb 3 rfl, BxA.frozN hb, _, rfl, ⟨?_, ⟨_, t, hb, h2⟩, fun cs t' hc => ?_⟩, hq⟩
    · exact (((Apart.setCell (p := ⟨g, 0, none⟩) _ (by simp) _).trans (Apart.setCell (p := ⟨g, 1, none⟩) _ (by simp) _)).trans (Apart.setCell (p := ⟨g, 2, none⟩) _ (by simp) _)).trans (Apart.setCell (p := ⟨g, 3, none⟩) _ (by simp) _)
    · rw [show W.heap[g]? = _ from hb] at hc
      cases hc
      exact ⟨_, hq, hn, rfl⟩

theorem BxA.cells13 {W : World} {b : Nat} {t : TypeId} {x0 x1 x2 x3 x4 x5 x6 x7 x8 x9 x10 x11 x12 : Value} (h : BxA W b t #[x0, x1, x2, x3, x4, x5, x6, x7, x8, x9, x10, x11, x12]) : W.cell? ⟨b, 0, none⟩ = some x0 ∧ W.cell? ⟨b, 1, none⟩ = some x1 ∧ W.cell? ⟨b, 2, none⟩ = some x2 ∧ W.cell? ⟨b, 3, none⟩ = some x3 ∧ W.cell? ⟨b, 4, none⟩ = some x4 ∧ W.cell? ⟨b, 5, none⟩ = some x5 ∧ W.cell? ⟨b, 6, none⟩ = some x6 ∧ W.cell? ⟨b, 7, none⟩ = some x7 ∧ W.cell? ⟨b, 8, none⟩ = some x8 ∧ W.cell? ⟨b, 9, none⟩ = some x9 ∧ W.cell? ⟨b, 10, none⟩ = some x10 ∧ W.cell? ⟨b, 11, none⟩ = some x11 ∧ W.cell? ⟨b, 12, none⟩ = some x12 :=
  ⟨h.cell 0 rfl, h.cell 1 rfl, h.cell 2 rfl, h.cell 3 rfl, h.cell 4 rfl, h.cell 5 rfl, h.cell 6 rfl, h.cell 7 rfl, h.cell 8 rfl, h.cell 9 rfl, h.cell 10 rfl, h.cell 11 rfl, h.cell 12 rfl⟩

end Go.Rt

namespace Go.Rt

open Go Go.RowKit Go.Proofs

section

variable {P : Program} {Q : Exit → Act → World → Prop} {md : Region.Mode} {l : List Oper} {a0 : Act} {S R : World → Prop} {ps : List PS} {A : (Nat → Value) → Act} {B g0 ks : Nat} {ms : List Nat} {ts : List Tag}

end

end Go.Rt
