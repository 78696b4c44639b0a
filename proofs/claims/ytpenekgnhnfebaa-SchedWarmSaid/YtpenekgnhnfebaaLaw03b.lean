/-
  Four laws more of chapter 03: their walks.
-/
import Derived.Test.YtpenekgnhnfebaaLaw03

namespace Go.Rt

open Go.RowKit Go.Shelf Go.Proofs

theorem Try.cmpLe {v1 v2 : Value} {N M : Nat} {w : World} (h1 : Nw w v1 N) (h2 : Nw w v2 M) (hle : N ≤ M) :
    Calls Try.prog 33 #[v1, v2] w fun e w' => ∃ c : Int, e = .returned (.int .i64 c) ∧ c ≤ 0 ∧ Ext w w' := by
  refine (Try.refCmp h1 h2).mono fun e w' ⟨he, hE⟩ => ⟨_, he, ?_, hE⟩
  rcases Nat.lt_or_ge N M with h | h
  · rw [cmpI_nat_lt h]; omega
  · rw [cmpI_nat_eq (by omega)]; omega

theorem Try.cmpGt {v1 v2 : Value} {N M : Nat} {w : World} (h1 : Nw w v1 N) (h2 : Nw w v2 M) (hlt : M < N) :
    Calls Try.prog 33 #[v1, v2] w fun e w' => ∃ c : Int, e = .returned (.int .i64 c) ∧ 0 < c ∧ Ext w w' :=
  (Try.refCmp h1 h2).mono fun _ _ ⟨he, hE⟩ => ⟨_, he, by rw [cmpI_nat_gt hlt]; omega, hE⟩

theorem rt_mono {A B k : Nat} (hk : 1 ≤ k) (h : A ≤ B) : rt A k ≤ rt B k := (le_rt_iff hk).2 (Nat.le_trans (rt_is A hk).1 h)

end Go.Rt
