/-
 The program's fractions: times, Add, Sub, Mul, Div, Of.
-/
import Derived.Test.YtkmilnnbmamknaaGreatGM
namespace Go.Rt
open Go.RowKit Go.Proofs

theorem Zw.opp {W : World} {a : Option Addr} {n c N : Nat} (h : Nw W (.slice a n c) N) : Zw W (.agg #[.bool false, .slice a n c]) (N : Int) := Zw.ofN h

theorem rat_sub_mk (x y : Rat) : mkRat (x.num * (y.den : Int) + -(y.num * (x.den : Int))) (x.den * y.den) = x - y := by
 rw [Rat.sub_eq_add_neg, ← Rat.add_mk, Rat.neg_num, Int.neg_mul]
 rfl

end Go.Rt
