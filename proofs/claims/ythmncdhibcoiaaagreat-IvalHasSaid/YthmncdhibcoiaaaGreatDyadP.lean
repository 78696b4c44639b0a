/-
 The program's dyads: rounding to the nearest of a grid; a number's mantissa.
-/
import Derived.Test.YthmncdhibcoiaaaGreatSqz
import Derived.Test.YthmncdhibcoiaaaGreatRatP
import Derived.Test.YthmncdhibcoiaaaGreatGS
import Derived.Test.YthmncdhibcoiaaaGreatMul64
import Derived.Test.YthmncdhibcoiaaaGreatDiv64
import Derived.Test.YthmncdhibcoiaaaGreatGF
import Derived.Test.YthmncdhibcoiaaaGreatGA
import Derived.ChangeKeysEq
import Derived.Test.YthmncdhibcoiaaaGreatGK
import Derived.Test.YthmncdhibcoiaaaGreatRight
import Derived.Test.YthmncdhibcoiaaaGreatGG
import Derived.Test.YthmncdhibcoiaaaGreatBoxA

namespace Go.Rt

open Go Go.RowKit Go.Proofs

/-- the lowest limb -/
theorem Nw.lowest {W : World} {a : Option Addr} {n c N : Nat} (h : Nw W (.slice a n c) N) (hn : 0 < n) :
  ∃ b o l, a = some ⟨b, o, none⟩ ∧ W.cell? ⟨b, o, none⟩ = some (.int .u64 ((l : Nat) : Int)) ∧ l < B64 ∧ l % 2 = N % 2 := by
 obtain ⟨xs, ⟨a', b, o, cap, e, hs, hl⟩, -, he⟩ := h
 cases e
 obtain rfl := hs.addr hn
 refine ⟨b, o, lg xs 0, rfl, ?_, lg_lt hl 0, ?_⟩
 ·have := hs.cell (i := 0) hn
  simpa using this
 ·rw [← he]
  match xs, hn with
  | x :: r, _ =>
   show lg (x :: r) 0 % 2 = (x + B64 * ev B64 r) % 2
   rw [show lg (x :: r) 0 = x from rfl, B64_eq]
   omega

theorem Zw.put {W : World} {a : Option Addr} {n c N : Nat} {b : Bool} {z : Int} (h : Nw W (.slice a n c) N) (hb : b = decide (sgn b N < 0)) (e : sgn b N = z) : Zw W (.agg #[.bool b, .slice a n c]) z := e ▸ Zw.mk h hb

theorem sgn_lead {M : Nat} {X : Bool} (h : decide (0 < M) = X) : sgn X M = sgn true M := by
 subst h
 rcases Nat.eq_zero_or_pos M with h | h
 ·subst h
  rfl
 ·rw [decide_eq_true h]

end Go.Rt
