/-
  The laws of chapter 02: their walks.
-/
import Derived.Test.YtfgmfhdcdhanbaaGE

namespace Go.Rt

open Go.RowKit Go.Shelf Go.Proofs

theorem Try.sameT {v1 v2 : Value} {N M : Nat} {w : World} (h1 : Nw w v1 N) (h2 : Nw w v2 M) (he : N = M) :
    Calls Try.prog 25 #[v1, v2] w fun e w' => e = .returned (.bool true) ∧ Ext w w' := by
  have := Try.refSame h1 h2
  rwa [decide_eq_true he] at this

theorem Try.rightT {v : Value} {N : Nat} {w : World} (h : Nw w v N) : Calls Try.prog 17 #[v] w fun e w' => e = .returned (.bool true) ∧ w = w' := by
  obtain ⟨xs, h1, h2, -⟩ := h
  have := Try.refRight h1
  rwa [normB_iff.2 h2] at this

theorem Try.ltT {v1 v2 : Value} {N M : Nat} {w : World} (h1 : Nw w v1 N) (h2 : Nw w v2 M) (hlt : N < M) :
    Calls Try.prog 13 #[v1, v2] w fun e w' => e = .returned (.int .i64 (-1)) ∧ Ext w w' := by
  have := Try.refCmp h1 h2
  rwa [cmpI_nat_lt hlt] at this

theorem Nw.lenS {w : World} {a : Option Addr} {n cap N : Nat} (h : Nw w (.slice a n cap) N) : (n = 0 ↔ N = 0) ∧ (∀ L, n ≤ L ↔ N < B64 ^ L) ∧ n ≤ cap ∧ cap ≤ 9223372036854775807 := by
  obtain ⟨xs, ⟨a', b, o, cap', hv, hs, hl⟩, hn, he⟩ := h
  cases hv
  refine ⟨?_, fun L => ?_, hs.le, hs.max⟩
  · rw [← he]; exact (hn.zero_iff B64_pos).symm
  · rw [← he]; exact len_le_iff (by rw [B64_eq]; omega) hl hn L

end Go.Rt
