/-
  The laws of chapter 02: their walks.
  Two laws more of chapter 02: their walks.
  The laws of chapter 03 (roots): their walks.
  Four laws more of chapter 03: their walks.
  Two laws more of chapter 03: their walks.
-/
import Derived.Test.YtfgmfhdcdhanbaaGreatGE
import Derived.Test.YtfgmfhdcdhanbaaGreatGG
namespace Go.Rt

open Go.RowKit Go.Shelf Go.Proofs

theorem Tryz.sameT {v1 v2 : Value} {N M : Nat} {w : World} (h1 : Nw w v1 N) (h2 : Nw w v2 M) (he : N = M) :
    Calls Tryz.prog 10 #[v1, v2] w fun e w' => e = .returned (.bool true) ∧ Ext w w' := by
  have := Tryz.refSame h1 h2
  rwa [decide_eq_true he] at this

theorem Nw.lenS {w : World} {a : Option Addr} {n cap N : Nat} (h : Nw w (.slice a n cap) N) : (n = 0 ↔ N = 0) ∧ (∀ L, n ≤ L ↔ N < B64 ^ L) ∧ n ≤ cap ∧ cap ≤ 9223372036854775807 := by
  obtain ⟨xs, ⟨a', b, o, cap', hv, hs, hl⟩, hn, he⟩ := h
  cases hv
  refine ⟨?_, fun L => ?_, hs.le, hs.max⟩
  · rw [← he]; exact (hn.zero_iff B64_pos).symm
  · rw [← he]; exact len_le_iff (by rw [B64_eq]; omega) hl hn L

end Go.Rt

namespace Go.Rt

open Go.RowKit Go.Shelf Go.Proofs

end Go.Rt

namespace Go.Rt

open Go.RowKit Go.Shelf Go.Proofs

theorem rootU_in {A : Nat} {k : Int} (h : 1 ≤ k ∧ k ≤ 16) : rootU A k = rtUp A k.toNat := if_pos h

end Go.Rt

namespace Go.Rt

open Go.RowKit Go.Shelf Go.Proofs

end Go.Rt

namespace Go.Rt

open Go.RowKit Go.Shelf Go.Proofs

end Go.Rt
