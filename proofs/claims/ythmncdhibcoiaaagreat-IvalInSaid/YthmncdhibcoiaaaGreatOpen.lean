/-
  Integers and fractions as they are handed in: structs by value, taken apart.
-/
import Derived.Test.YthmncdhibcoiaaaGreatClose
import Derived.Test.YthmncdhibcoiaaaGreatGK
import Derived.Lib.SmallJoins

namespace Go.Rt

open Go.RowKit Go.WideShapes Go.ChangeShapes

section

variable {H : Type} {enc : TypeId × Value → H} {P : Program} {W : World} {base : Nat}
theorem open_nat_cell {t e : TypeId} {v : Value} {n : Nat} {y : DataW H × List MemPlace} (ht : P.underlying t = some (.slice e)) (he : P.underlying e = some (.int .u64)) (hc : P.cellsOf e = 1)
    (ho : Cell.okWide P W .any base t v) (h : DataW.trod enc P W 0 (fun _ => true) true n t [v] = some y) : ∃ a l c xs, v = .slice a l c ∧ Nt W (.slice a l c) xs := by
  have ho' : Value.okWide P W .any base t v := by simp only [Value.okWide, ht]; exact ho
  obtain ⟨a, l, c, rfl⟩ := okWide_slice ht ho'
  obtain ⟨xs, hx⟩ := open_nat ht he hc (d := y.1) (ps := y.2) ho' ⟨n, by simpa [Value.cells] using h⟩
  exact ⟨a, l, c, xs, rfl, hx⟩

theorem open_bool_cell {t : TypeId} {v : Value} (ht : P.underlying t = some .bool) (ho : Cell.okWide P W .any base t v) : ∃ b, v = .bool b := by
  have ho' : Value.okWide P W .any base t v := by simp only [Value.okWide, ht]; exact ho
  exact okWide_bool ht ho'

theorem open_zed_cells {tz tb tn e : TypeId} {f0 f1 : Field} {n : Nat} {v0 v1 : Value} {y : DataW H × List MemPlace} (hz : P.underlying tz = some (.struct #[f0, f1])) (_e1 : f0.type = tb) (_e2 : f0.offset = 0) (e3 : f1.type = tn) (e4 : f1.offset = 1)
    (hb : P.underlying tb = some .bool) (hn : P.underlying tn = some (.slice e)) (he : P.underlying e = some (.int .u64)) (hc : P.cellsOf e = 1) (hcn : P.cellsOf tn = 1)
    (o0 : Cell.okWide P W .any base tb v0) (o1 : Cell.okWide P W .any base tn v1) (h : DataW.trod enc P W 0 (fun _ => true) true n tz [v0, v1] = some y) :
    ∃ b a l c xs, v0 = .bool b ∧ v1 = .slice a l c ∧ Nt W (.slice a l c) xs := by
  obtain ⟨y0, y1, m, -, -, -, h1⟩ := trod_struct2 hz h
  rw [e3, e4, hcn] at h1
  obtain ⟨b, rfl⟩ := open_bool_cell hb o0
  obtain ⟨a, l, c, xs, rfl, hx⟩ := open_nat_cell hn he hc o1 (by simpa using h1)
  exact ⟨b, a, l, c, xs, rfl, rfl, hx⟩

theorem open_rat_cells {tr tz tb tn e : TypeId} {f0 f1 g0 g1 : Field} {n : Nat} {v0 v1 v2 : Value} {y : DataW H × List MemPlace} (hr : P.underlying tr = some (.struct #[g0, g1])) (d1 : g0.type = tz) (d2 : g0.offset = 0) (d3 : g1.type = tn) (d4 : g1.offset = 2)
    (hz : P.underlying tz = some (.struct #[f0, f1])) (e1 : f0.type = tb) (e2 : f0.offset = 0) (e3 : f1.type = tn) (e4 : f1.offset = 1)
    (hb : P.underlying tb = some .bool) (hn : P.underlying tn = some (.slice e)) (he : P.underlying e = some (.int .u64)) (hc : P.cellsOf e = 1) (hcn : P.cellsOf tn = 1) (hcz : P.cellsOf tz = 2)
    (o0 : Cell.okWide P W .any base tb v0) (o1 : Cell.okWide P W .any base tn v1) (o2 : Cell.okWide P W .any base tn v2) (h : DataW.trod enc P W 0 (fun _ => true) true n tr [v0, v1, v2] = some y) :
    ∃ b a l c a' l' c' xs ys, v0 = .bool b ∧ v1 = .slice a l c ∧ v2 = .slice a' l' c' ∧ Nt W (.slice a l c) xs ∧ Nt W (.slice a' l' c') ys := by
  obtain ⟨y0, y1, m, -, -, h0, h1⟩ := trod_struct2 hr h
  rw [d1, d2, hcz] at h0
  rw [d3, d4, hcn] at h1
  obtain ⟨b, a, l, c, xs, rfl, rfl, hx⟩ := open_zed_cells hz e1 e2 e3 e4 hb hn he hc hcn o0 o1 (by simpa using h0)
  obtain ⟨a', l', c', ys, rfl, hy⟩ := open_nat_cell hn he hc o2 (by simpa using h1)
  exact ⟨b, a, l, c, a', l', c', xs, ys, rfl, rfl, rfl, hx, hy⟩

end

end Go.Rt
