/-
 The laws of chapter 05 (fractions): their walks.
-/
import Derived.Test.YtkmilnnbmamknaaSqz
import Derived.Test.YtkmilnnbmamknaaRight

namespace Go.Rt

open Go.RowKit Go.Proofs

/-- which is greater -/
def cmpR (x y : Rat) : Int := if x < y then -1 else if y < x then 1 else 0

theorem Try.refRCmpR {v1 v2 : Value} {x y : Rat} {L : Nat} {w : World} (h1 : Rw w v1 x) (h2 : Rw w v2 y) (s1 : SmR L x) (s2 : SmR L y) (hL : L ≤ 1000) {c : Int} (hc : cmpR x y = c) :
  Calls Try.prog 12 #[v1, v2] w fun e w' => e = .returned (.int .i64 c) ∧ Ext w w' := by subst hc; exact Try.refRCmp h1 h2 s1.1 s1.2 s2.1 s2.2 (by omega)

end Go.Rt
