/-
  The laws of chapter 08 (numbers of a fixed point): Reckons: its walk.
-/
import Derived.Test.YtpenekgnhnfebaaRef08b
namespace Go.Rt
open Go.RowKit Go.Proofs

end Go.Rt
