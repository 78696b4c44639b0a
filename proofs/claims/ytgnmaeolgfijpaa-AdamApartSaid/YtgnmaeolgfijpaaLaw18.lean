/-
 The laws of chapter 18 (Adam): Powers. Adams as they are handed in.
-/
import Derived.Test.YtgnmaeolgfijpaaGY
import Derived.Test.YtgnmaeolgfijpaaGZ
import Derived.Test.YtgnmaeolgfijpaaGV

namespace Go.Rt

open Go Go.RowKit Go.Proofs Go.WideShapes Go.ChangeShapes

theorem cell_int64 {P : Program} {W : World} {base : Nat} {t : TypeId} {v : Value} (ht : P.underlying t = some (.int .i64)) (h : Cell.okWide P W .any base t v) : ∃ n : Int, v = .int .i64 n ∧ I64 n := by
 have h' : Value.okWide P W .any base t v := by simp only [Value.okWide, ht]; exact h
 obtain ⟨n, rfl⟩ := okWide_int ht h'
 refine ⟨n, rfl, ?_⟩
 simp [Cell.okWide, Cell.ok, ht, IntKind.has, IntKind.min, IntKind.max, IntKind.signed, IntKind.bits] at h
 exact ⟨by omega, by omega⟩

theorem cell_bool {P : Program} {W : World} {base : Nat} {t : TypeId} {v : Value} (ht : P.underlying t = some .bool) (h : Cell.okWide P W .any base t v) : ∃ b, v = .bool b := by
 have h' : Value.okWide P W .any base t v := by simp only [Value.okWide, ht]; exact h
 exact okWide_bool ht h'

end Go.Rt
