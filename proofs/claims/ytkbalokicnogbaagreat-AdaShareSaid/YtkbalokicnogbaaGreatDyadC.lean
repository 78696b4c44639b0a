/-
 The program's dyads: down, up, a multiple's number; what a grid too fine answers; the reference's likewise.
-/
import Derived.Test.YtkbalokicnogbaaGreatSqz
import Derived.Test.YtkbalokicnogbaaGreatDyadP
import Derived.Test.YtkbalokicnogbaaGreatGL
import Derived.Test.YtkbalokicnogbaaGreatGI

namespace Go.Rt

open Go Go.RowKit Go.Proofs

theorem Zw.nought (W : World) : Zw W (.agg #[.bool false, .slice none 0 0]) 0 := ⟨false, none, 0, 0, rfl, Lib.hid rfl, Nw.nil W⟩

end Go.Rt
