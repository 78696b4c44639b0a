/-
  The laws of chapter 02: their walks.
-/
import Derived.Test.YtkmilnnbmamknaaGreatGE

namespace Go.Rt

open Go.RowKit Go.Shelf Go.Proofs

theorem Tryz.ltT {v1 v2 : Value} {N M : Nat} {w : World} (h1 : Nw w v1 N) (h2 : Nw w v2 M) (hlt : N < M) :
    Calls Tryz.prog 80 #[v1, v2] w fun e w' => e = .returned (.int .i64 (-1)) ∧ Ext w w' := by
  have := Tryz.refCmp h1 h2
  rwa [cmpI_nat_lt hlt] at this

end Go.Rt
