/-
  Schedules as they are handed in: structs of eight whole numbers by value, taken apart; pairs of ints.
-/
import Derived.Test.YtkmilnnbmamknaaGreatOpenP
namespace Go.Rt
open Go.RowKit Go.WideShapes Go.ChangeShapes

theorem array8 {α : Type} {cs : Array α} (h : cs.size = 8) : ∃ c0 c1 c2 c3 c4 c5 c6 c7, cs = #[c0, c1, c2, c3, c4, c5, c6, c7] := by
  obtain ⟨l⟩ := cs
  match l, h with
  | [c0, c1, c2, c3, c4, c5, c6, c7], _ => exact ⟨c0, c1, c2, c3, c4, c5, c6, c7, rfl⟩
section
variable {P : Program} {W : World} {base : Nat}
theorem cell_i64 {t : TypeId} {v : Value} (ht : P.underlying t = some (.int .i64)) (h : Cell.okWide P W .any base t v) : ∃ n : Int, v = .int .i64 n ∧ -9223372036854775808 ≤ n ∧ n < 9223372036854775808 := by
  have h' : Value.okWide P W .any base t v := by simp only [Value.okWide, ht]; exact h
  obtain ⟨n, rfl⟩ := okWide_int ht h'
  refine ⟨n, rfl, ?_⟩
  simp [Cell.okWide, Cell.ok, ht, IntKind.has, IntKind.min, IntKind.max, IntKind.signed, IntKind.bits] at h
  omega

theorem open_ints8 {t : TypeId} {fs : Array Field} {ts : List TypeId} {v : Value} (ht : P.underlying t = some (.struct fs)) (hct : P.cellsOf t = 8) (hts : P.cellTypes P.depth t = some ts) (_hl : ts.length = 8)
    (hk : ∀ (i : Nat) (u : TypeId), ts[i]? = some u → P.underlying u = some (.int .i64)) (ho : Value.okWide P W .any base t v) :
    ∃ x0 x1 x2 x3 x4 x5 x6 x7 : Int, v = .agg #[.int .i64 x0, .int .i64 x1, .int .i64 x2, .int .i64 x3, .int .i64 x4, .int .i64 x5, .int .i64 x6, .int .i64 x7] ∧ x1 < 9223372036854775808 := by
  simp only [Value.okWide, ht] at ho
  obtain ⟨cs, rfl, hsz, ts', hts', -, hcell⟩ := ho
  rw [hts] at hts'
  cases hts'
  obtain ⟨c0, c1, c2, c3, c4, c5, c6, c7, rfl⟩ := array8 (hsz.trans hct)
  have g : ∀ (i : Nat) (v : Value), (#[c0, c1, c2, c3, c4, c5, c6, c7] : Array Value)[i]? = some v → ∃ n : Int, v = .int .i64 n ∧ -9223372036854775808 ≤ n ∧ n < 9223372036854775808 := by
    intro i v hv
    obtain ⟨u, hu, hc⟩ := hcell i v hv
    exact cell_i64 (hk _ u hu) hc
  obtain ⟨x0, rfl, -⟩ := g 0 c0 rfl
  obtain ⟨x1, rfl, -, hx⟩ := g 1 c1 rfl
  obtain ⟨x2, rfl, -⟩ := g 2 c2 rfl
  obtain ⟨x3, rfl, -⟩ := g 3 c3 rfl
  obtain ⟨x4, rfl, -⟩ := g 4 c4 rfl
  obtain ⟨x5, rfl, -⟩ := g 5 c5 rfl
  obtain ⟨x6, rfl, -⟩ := g 6 c6 rfl
  obtain ⟨x7, rfl, -⟩ := g 7 c7 rfl
  exact ⟨x0, x1, x2, x3, x4, x5, x6, x7, rfl, hx⟩
end

set_option maxRecDepth 100000 in
theorem Tryz.openSched {W : World} {base : Nat} {v : Value} (ho : Value.okWide Go.Proofs.Tryz.prog W .any base 23 v) :
    ∃ x0 x1 x2 x3 x4 x5 x6 x7 : Int, v = .agg #[.int .i64 x0, .int .i64 x1, .int .i64 x2, .int .i64 x3, .int .i64 x4, .int .i64 x5, .int .i64 x6, .int .i64 x7] ∧ x1 < 9223372036854775808 := by
  refine open_ints8 (ts := [3, 2, 2, 2, 3, 3, 3, 3]) Go.Proofs.Tryz.underlying23 (by kernel_rfl) (by kernel_rfl) rfl (fun i u h => ?_) ho
  have hu : u = 3 ∨ u = 2 := by
    match i, h with
    | 0, h => left; simpa using h.symm
    | 1, h => right; simpa using h.symm
    | 2, h => right; simpa using h.symm
    | 3, h => right; simpa using h.symm
    | 4, h => left; simpa using h.symm
    | 5, h => left; simpa using h.symm
    | 6, h => left; simpa using h.symm
    | 7, h => left; simpa using h.symm
  rcases hu with rfl | rfl
  · exact Go.Proofs.Tryz.underlying3
  · exact Go.Proofs.Tryz.underlying2

end Go.Rt
