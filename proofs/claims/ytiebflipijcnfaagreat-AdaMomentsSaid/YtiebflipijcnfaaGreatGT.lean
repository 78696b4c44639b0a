/-
  The laws of chapter 02: their walks.
  Two laws more of chapter 02: their walks.
  The laws of chapter 03 (roots): their walks.
  Four laws more of chapter 03: their walks.
  Two laws more of chapter 03: their walks.
-/
import Derived.Test.YtiebflipijcnfaaGreatGG
namespace Go.Rt
open Go.RowKit Go.Shelf Go.Proofs
end Go.Rt
namespace Go.Rt
open Go.RowKit Go.Shelf Go.Proofs
end Go.Rt
namespace Go.Rt
open Go.RowKit Go.Shelf Go.Proofs
end Go.Rt
namespace Go.Rt
open Go.RowKit Go.Shelf Go.Proofs
theorem rt_mono {A B k:Nat} (hk:1≤k) (h:A≤B):rt A k≤rt B k:=(le_rt_iff hk).2 (Nat.le_trans (rt_is A hk).1 h)
end Go.Rt
namespace Go.Rt
open Go.RowKit Go.Shelf Go.Proofs
end Go.Rt
