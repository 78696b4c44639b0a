/-
  Arrays of two whole numbers, compared.
-/
import Derived.Test.YtkbalokicnogbaaGreatGA
import Derived.ChangeKeysEq
namespace Go.Rt
open Go

theorem run_eqPair {P : Program} {t e : TypeId} {k : IntKind} (d : Nat) (hu : P.underlying t = some (.array 2 e)) (hp : P.plainKey e = true) (hc : P.cellsOf e = 1)
    (he : P.underlying e = some (.int k)) (x y x' y' : Int) (w : World) :
    (Op.equalIn (d + 2) t (.agg #[.int k x, .int k y]) (.agg #[.int k x', .int k y'])).run P w = .ok (x == x' && y == y') w := by
  obtain ⟨i, hi⟩ := info_of_underlying he
  rw [show d + 2 = (d + 1) + 1 from rfl, run_equalIn_array w (d + 1) _ _ hu hi, hc, show List.range 2 = [0, 1] from rfl]
  have r : ∀ (a b : Int) (w : World), (Op.equalIn (d + 1) e (.int k a) (.int k b)).run P w = .ok (a == b) w := fun a b w => run_equalIn_int w d e k k a b he
  have p0 : ∀ (a b : Int) (w : World), (part e #[.int k a, .int k b] 0).run P w = .ok (.int k a) w := fun a b w => run_part_plain w hp rfl
  have p1 : ∀ (a b : Int) (w : World), (part e #[.int k a, .int k b] 1).run P w = .ok (.int k b) w := fun a b w => run_part_plain w hp rfl
  by_cases h : x = x'
  · by_cases h' : y = y'
    · simp [Op.eqItems, r, p0, p1, h, h']
    · simp [Op.eqItems, r, p0, p1, h, h']
  · simp [Op.eqItems, r, p0, p1, h]
end Go.Rt
