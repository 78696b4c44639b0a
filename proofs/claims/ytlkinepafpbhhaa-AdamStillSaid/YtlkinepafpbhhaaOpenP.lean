/-
  Pairs of whole numbers as they are handed in: arrays of two by value, taken apart.
-/
import Derived.Test.YtlkinepafpbhhaaClose
import Derived.Lib.SmallJoins
namespace Go.Rt
open Go.RowKit Go.WideShapes Go.ChangeShapes

section
variable {H : Type} {enc : TypeId × Value → H} {P : Program} {W : World} {base : Nat}
theorem trod_array2 {b0 : Nat} {spare : Nat → Bool} {held : Bool} {t e : TypeId} {fuel : Nat} {c0 c1 : Value} {x : DataW H × List MemPlace} (ht : P.underlying t = some (.array 2 e)) (hce : P.cellsOf e = 1)
    (h : DataW.trod enc P W b0 spare held fuel t [c0, c1] = some x) :
    ∃ y0 y1 n, DataW.trod enc P W b0 spare held n e [c0] = some y0 ∧ DataW.trod enc P W b0 spare held n e [c1] = some y1 := by
  cases fuel with
  | zero => simp [DataW.trod] at h
  | succ n =>
    unfold DataW.trod at h
    rw [ht] at h
    have r2 : List.range 2 = [0, 1] := rfl
    simp [r2, hce] at h
    obtain ⟨_, h⟩ := h
    cases h0 : DataW.trod enc P W b0 spare held n e [c0] with
    | none => simp [h0] at h
    | some y0 =>
      cases h1 : DataW.trod enc P W b0 spare held n e [c1] with
      | none => simp [h0, h1] at h
      | some y1 => exact ⟨y0, y1, n, h0, h1⟩

theorem open_pair {t e : TypeId} {k : IntKind} {v : Value} {d : DataW H} {ps : List MemPlace} (ht : P.underlying t = some (.array 2 e)) (he : P.underlying e = some (.int k)) (hce : P.cellsOf e = 1) (hct : P.cellsOf t = 2)
    (ho : Value.okWide P W .any base t v) (h : DataW.Trod enc P W 0 (fun _ => true) true t v d ps) :
    ∃ x y, v = .agg #[.int k x, .int k y] ∧ (Lit.int k x).wf = true ∧ (Lit.int k y).wf = true := by
  have ho2 := ho
  simp only [Value.okWide, ht] at ho2
  obtain ⟨cs, rfl, hsz, -⟩ := ho2
  obtain ⟨v0, v1, rfl⟩ := Joins.array2 (hsz.trans hct)
  obtain ⟨n, hf⟩ := h
  obtain ⟨y0, y1, m, h0, h1⟩ := trod_array2 ht hce (by simpa [Value.cells] using hf)
  obtain ⟨n0, e0, -, w0⟩ := DataW.trod_int he h0
  obtain ⟨n1, e1, -, w1⟩ := DataW.trod_int he h1
  cases e0
  cases e1
  exact ⟨n0, n1, rfl, w0, w1⟩
end

set_option maxRecDepth 100000 in
theorem Try.openPair {H : Type} {enc : TypeId × Value → H} {W : World} {base : Nat} {v : Value} {d : DataW H} {ps : List MemPlace} (ho : Value.okWide Go.Proofs.Try.prog W .any base 24 v) (h : DataW.Trod enc Go.Proofs.Try.prog W 0 (fun _ => true) true 24 v d ps) :
    ∃ x y, v = .agg #[.int .i64 x, .int .i64 y] ∧ (Lit.int .i64 x).wf = true ∧ (Lit.int .i64 y).wf = true :=
  open_pair Go.Proofs.Try.underlying24 Go.Proofs.Try.underlying2 (by kernel_rfl) (by kernel_rfl) ho h
end Go.Rt
