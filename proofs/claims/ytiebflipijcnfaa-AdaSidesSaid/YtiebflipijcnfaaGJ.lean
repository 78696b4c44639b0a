/-
  The reference's fractions: over, Neg, Cmp, Abs.
  The reference's fractions: Abs, Same, Of, Frac.
  The reference's fractions: Frac, Add, Sub.
  The reference's integers: Right, Few.
-/
import Derived.Test.YtiebflipijcnfaaGY
import Derived.Test.YtiebflipijcnfaaGI
namespace Go.Rt

open Go.RowKit Go.Proofs

theorem Zw.nat {w : World} {a : Option Addr} {n c N : Nat} (h : Nw w (.slice a n c) N) : Zw w (.agg #[.bool false, .slice a n c]) (N : Int) := ⟨false, a, n, c, rfl, Lib.hid (by simp), by simpa using h⟩

theorem Rw.zed {w : World} {b : Bool} {a : Option Addr} {n c : Nat} {z : Int} (hb : Hid (b = decide (z < 0))) (h : Nw w (.slice a n c) z.natAbs) : Zw w (.agg #[.bool b, .slice a n c]) z := ⟨b, a, n, c, rfl, hb, h⟩

end Go.Rt

namespace Go.Rt
open Go.RowKit Go.Proofs

end Go.Rt

namespace Go.Rt

open Go.RowKit Go.Proofs

end Go.Rt

namespace Go.Rt
open Go.RowKit Go.Proofs

end Go.Rt
