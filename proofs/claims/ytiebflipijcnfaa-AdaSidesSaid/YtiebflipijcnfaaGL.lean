/-
  The reference's fractions: Add, Mul, Sub, Div, Of.
  Contracts in the forms that the printed walks ask for.
-/
import Derived.Test.YtiebflipijcnfaaGY
import Derived.Test.YtiebflipijcnfaaGJ
import Derived.Test.YtiebflipijcnfaaGK
import Derived.Test.YtiebflipijcnfaaGI
namespace Go.Rt

open Go.RowKit Go.Proofs

end Go.Rt

namespace Go.Rt

open Go.RowKit Go.Proofs

theorem shE_in {K : Nat} (h : K ≤ 20000) : shE (K : Int) = 0 := if_neg (by omega)

theorem shlV_in {N K : Nat} (h : K ≤ 20000) : shlV N (K : Int) = N * 2 ^ K := by unfold shlV; rw [if_neg (by omega), Int.toNat_natCast]

theorem dvE_in {M : Nat} (h : M ≠ 0) : dvE M = 0 := if_neg h

theorem dvR_in {N M : Nat} (h : M ≠ 0) : dvR N M = N % M := if_neg h

theorem Try.divShlK {v : Value} {N L : Nat} {w : World} (h : Nw w v N) (s : Sm L N) (hL : L ≤ 1000000) (K : Nat) (hK : K ≤ 20000) :
    Calls Try.prog 18 #[v, .int .i64 (K : Int)] w fun e w' => ∃ v', e = .returned (.tuple #[v', .int .i64 0]) ∧ Nw w' v' (N * 2 ^ K) ∧ Ext w w' :=
  (Try.divShl h s hL K).mono fun _ _ ⟨v', h1, h2, h3, _⟩ => ⟨v', by rw [h1, shE_in hK], by rw [← shlV_in hK]; exact h2, h3⟩

theorem Try.divDivModK {v1 v2 : Value} {N M L : Nat} {w : World} (h1 : Nw w v1 N) (h2 : Nw w v2 M) (s1 : Sm L N) (hL : L ≤ 300000) (hM : M ≠ 0) :
    Calls Try.prog 21 #[v1, v2] w fun e w' => ∃ vq vr, e = .returned (.tuple #[vq, vr, .int .i64 0]) ∧ Nw w' vq (N / M) ∧ Nw w' vr (N % M) ∧ Ext w w' :=
  (Try.divDivMod h1 h2 s1 hL).mono fun _ _ ⟨vq, vr, h1, h2, h3, h4, _⟩ => ⟨vq, vr, by rw [h1, dvE_in hM], h2, by rw [← dvR_in hM]; exact h3, h4⟩

theorem Zw.ofN {W : World} {a : Option Addr} {n c N : Nat} (h : Nw W (.slice a n c) N) : Zw W (.agg #[.bool false, .slice a n c]) (N : Int) := ⟨false, a, n, c, rfl, Lib.hid (by rw [decide_eq_false (by omega)]), by rw [Int.natAbs_natCast]; exact h⟩

end Go.Rt
