/-
  Pairs of whole numbers as they are handed in: arrays of two by value, taken apart.
  Arrays of bytes as they are handed in: two and four, by value, taken apart.
-/
import Derived.Test.YthmncdhibcoiaaaGreatClose
import Derived.Lib.SmallJoins
namespace Go.Rt
open Go.RowKit Go.WideShapes Go.ChangeShapes

section
variable {H : Type} {enc : TypeId × Value → H} {P : Program} {W : World} {base : Nat}
theorem trod_array2 {b0 : Nat} {spare : Nat → Bool} {held : Bool} {t e : TypeId} {fuel : Nat} {c0 c1 : Value} {x : DataW H × List MemPlace} (ht : P.underlying t = some (.array 2 e)) (hce : P.cellsOf e = 1)
    (h : DataW.trod enc P W b0 spare held fuel t [c0, c1] = some x) :
    ∃ y0 y1 n, DataW.trod enc P W b0 spare held n e [c0] = some y0 ∧ DataW.trod enc P W b0 spare held n e [c1] = some y1 := by
  cases fuel with
  | zero => simp [DataW.trod] at h
  | succ n =>
    unfold DataW.trod at h
    rw [ht] at h
    have r2 : List.range 2 = [0, 1] := rfl
    simp [r2, hce] at h
    obtain ⟨_, h⟩ := h
    cases h0 : DataW.trod enc P W b0 spare held n e [c0] with
    | none => simp [h0] at h
    | some y0 =>
      cases h1 : DataW.trod enc P W b0 spare held n e [c1] with
      | none => simp [h0, h1] at h
      | some y1 => exact ⟨y0, y1, n, h0, h1⟩

theorem open_pair {t e : TypeId} {k : IntKind} {v : Value} {d : DataW H} {ps : List MemPlace} (ht : P.underlying t = some (.array 2 e)) (he : P.underlying e = some (.int k)) (hce : P.cellsOf e = 1) (hct : P.cellsOf t = 2)
    (ho : Value.okWide P W .any base t v) (h : DataW.Trod enc P W 0 (fun _ => true) true t v d ps) :
    ∃ x y, v = .agg #[.int k x, .int k y] ∧ (Lit.int k x).wf = true ∧ (Lit.int k y).wf = true := by
  have ho2 := ho
  simp only [Value.okWide, ht] at ho2
  obtain ⟨cs, rfl, hsz, -⟩ := ho2
  obtain ⟨v0, v1, rfl⟩ := Joins.array2 (hsz.trans hct)
  obtain ⟨n, hf⟩ := h
  obtain ⟨y0, y1, m, h0, h1⟩ := trod_array2 ht hce (by simpa [Value.cells] using hf)
  obtain ⟨n0, e0, -, w0⟩ := DataW.trod_int he h0
  obtain ⟨n1, e1, -, w1⟩ := DataW.trod_int he h1
  cases e0
  cases e1
  exact ⟨n0, n1, rfl, w0, w1⟩
end

end Go.Rt

namespace Go.Rt
open Go.RowKit Go.WideShapes Go.ChangeShapes

theorem byte_of {n : Int} (h : (Lit.int .u8 n).wf = true) : ∃ k : Nat, n = (k : Int) ∧ k < 256 := by
  simp [Lit.wf, IntKind.min, IntKind.max, IntKind.signed, IntKind.bits] at h
  exact ⟨n.toNat, by omega, by omega⟩

section
variable {H : Type} {enc : TypeId × Value → H} {P : Program} {W : World} {base : Nat}
theorem trod_array4 {b0 : Nat} {spare : Nat → Bool} {held : Bool} {t e : TypeId} {fuel : Nat} {c0 c1 c2 c3 : Value} {x : DataW H × List MemPlace} (ht : P.underlying t = some (.array 4 e)) (hce : P.cellsOf e = 1)
    (h : DataW.trod enc P W b0 spare held fuel t [c0, c1, c2, c3] = some x) :
    ∃ y0 y1 y2 y3 n, DataW.trod enc P W b0 spare held n e [c0] = some y0 ∧ DataW.trod enc P W b0 spare held n e [c1] = some y1 ∧ DataW.trod enc P W b0 spare held n e [c2] = some y2 ∧ DataW.trod enc P W b0 spare held n e [c3] = some y3 := by
  cases fuel with
  | zero => simp [DataW.trod] at h
  | succ n =>
    unfold DataW.trod at h
    rw [ht] at h
    have r4 : List.range 4 = [0, 1, 2, 3] := rfl
    simp [r4, hce] at h
    obtain ⟨_, h⟩ := h
    cases h0 : DataW.trod enc P W b0 spare held n e [c0] with
    | none => simp [h0] at h
    | some y0 =>
      cases h1 : DataW.trod enc P W b0 spare held n e [c1] with
      | none => simp [h0, h1] at h
      | some y1 =>
        cases h2 : DataW.trod enc P W b0 spare held n e [c2] with
        | none => simp [h0, h1, h2] at h
        | some y2 =>
          cases h3 : DataW.trod enc P W b0 spare held n e [c3] with
          | none => simp [h0, h1, h2, h3] at h
          | some y3 => exact ⟨y0, y1, y2, y3, n, h0, h1, h2, h3⟩

theorem open_four {t e : TypeId} {k : IntKind} {v : Value} {d : DataW H} {ps : List MemPlace} (ht : P.underlying t = some (.array 4 e)) (he : P.underlying e = some (.int k)) (hce : P.cellsOf e = 1) (hct : P.cellsOf t = 4)
    (ho : Value.okWide P W .any base t v) (h : DataW.Trod enc P W 0 (fun _ => true) true t v d ps) :
    ∃ x y z u, v = .agg #[.int k x, .int k y, .int k z, .int k u] ∧ (Lit.int k x).wf = true ∧ (Lit.int k y).wf = true ∧ (Lit.int k z).wf = true ∧ (Lit.int k u).wf = true := by
  have ho2 := ho
  simp only [Value.okWide, ht] at ho2
  obtain ⟨cs, rfl, hsz, -⟩ := ho2
  obtain ⟨v0, v1, v2, v3, rfl⟩ : ∃ a b c d, cs = #[a, b, c, d] := by
    have hs : cs.size = 4 := hsz.trans hct
    obtain ⟨l⟩ := cs
    match l, hs with
    | [a, b, c, d], _ => exact ⟨a, b, c, d, rfl⟩
  obtain ⟨n, hf⟩ := h
  obtain ⟨y0, y1, y2, y3, m, h0, h1, h2, h3⟩ := trod_array4 ht hce (by simpa [Value.cells] using hf)
  obtain ⟨n0, e0, -, w0⟩ := DataW.trod_int he h0
  obtain ⟨n1, e1, -, w1⟩ := DataW.trod_int he h1
  obtain ⟨n2, e2, -, w2⟩ := DataW.trod_int he h2
  obtain ⟨n3, e3, -, w3⟩ := DataW.trod_int he h3
  cases e0
  cases e1
  cases e2
  cases e3
  exact ⟨n0, n1, n2, n3, rfl, w0, w1, w2, w3⟩
end

set_option maxRecDepth 100000 in
theorem Tryz.openBytes2 {H : Type} {enc : TypeId × Value → H} {W : World} {base : Nat} {v : Value} {d : DataW H} {ps : List MemPlace} (ho : Value.okWide Go.Proofs.Tryz.prog W .any base 48 v) (h : DataW.Trod enc Go.Proofs.Tryz.prog W 0 (fun _ => true) true 48 v d ps) :
    ∃ x y : Nat, v = .agg #[.int .u8 (x : Int), .int .u8 (y : Int)] ∧ x < 256 ∧ y < 256 := by
  obtain ⟨x, y, rfl, w1, w2⟩ := open_pair Go.Proofs.Tryz.underlying48 Go.Proofs.Tryz.underlying5 (by kernel_rfl) (by kernel_rfl) ho h
  obtain ⟨i, rfl, hi⟩ := byte_of w1
  obtain ⟨j, rfl, hj⟩ := byte_of w2
  exact ⟨i, j, rfl, hi, hj⟩

set_option maxRecDepth 100000 in
theorem Tryz.openBytes4 {H : Type} {enc : TypeId × Value → H} {W : World} {base : Nat} {v : Value} {d : DataW H} {ps : List MemPlace} (ho : Value.okWide Go.Proofs.Tryz.prog W .any base 53 v) (h : DataW.Trod enc Go.Proofs.Tryz.prog W 0 (fun _ => true) true 53 v d ps) :
    ∃ x y z u : Nat, v = .agg #[.int .u8 (x : Int), .int .u8 (y : Int), .int .u8 (z : Int), .int .u8 (u : Int)] ∧ x < 256 ∧ y < 256 ∧ z < 256 ∧ u < 256 := by
  obtain ⟨x, y, z, u, rfl, w1, w2, w3, w4⟩ := open_four Go.Proofs.Tryz.underlying53 Go.Proofs.Tryz.underlying5 (by kernel_rfl) (by kernel_rfl) ho h
  obtain ⟨i, rfl, hi⟩ := byte_of w1
  obtain ⟨j, rfl, hj⟩ := byte_of w2
  obtain ⟨k, rfl, hk⟩ := byte_of w3
  obtain ⟨l, rfl, hl⟩ := byte_of w4
  exact ⟨i, j, k, l, rfl, hi, hj, hk, hl⟩
end Go.Rt
