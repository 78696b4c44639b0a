/-
  The reference's fractions: Add, Mul, Sub, Div, Of.
  Contracts in the forms that the printed walks ask for.
-/
import Derived.Test.YtgnmaeolgfijpaaGY
import Derived.Test.YtgnmaeolgfijpaaGJ
import Derived.Test.YtgnmaeolgfijpaaGK
import Derived.Test.YtgnmaeolgfijpaaGI
namespace Go.Rt

open Go.RowKit Go.Proofs

end Go.Rt

namespace Go.Rt

open Go.RowKit Go.Proofs

theorem shE_in {K : Nat} (h : K ≤ 20000) : shE (K : Int) = 0 := if_neg (by omega)

theorem shlV_in {N K : Nat} (h : K ≤ 20000) : shlV N (K : Int) = N * 2 ^ K := by unfold shlV; rw [if_neg (by omega), Int.toNat_natCast]

theorem Try.divShlK {v : Value} {N L : Nat} {w : World} (h : Nw w v N) (s : Sm L N) (hL : L ≤ 1000000) (K : Nat) (hK : K ≤ 20000) :
    Calls Try.prog 28 #[v, .int .i64 (K : Int)] w fun e w' => ∃ v', e = .returned (.tuple #[v', .int .i64 0]) ∧ Nw w' v' (N * 2 ^ K) ∧ Ext w w' :=
  (Try.divShl h s hL K).mono fun _ _ ⟨v', h1, h2, h3, _⟩ => ⟨v', by rw [h1, shE_in hK], by rw [← shlV_in hK]; exact h2, h3⟩

theorem Zw.ofN {W : World} {a : Option Addr} {n c N : Nat} (h : Nw W (.slice a n c) N) : Zw W (.agg #[.bool false, .slice a n c]) (N : Int) := ⟨false, a, n, c, rfl, Lib.hid (by rw [decide_eq_false (by omega)]), by rw [Int.natAbs_natCast]; exact h⟩

end Go.Rt
