/-
 Adam: the powers behind a step; what the document says is right; the question that is always live.
-/
import Derived.Test.YtkbalokicnogbaaGreatSqz
import Derived.Test.YtkbalokicnogbaaGreatAdamD
import Derived.Test.YtkbalokicnogbaaGreatGS
import Derived.Test.YtkbalokicnogbaaGreatBoxA
import Derived.Test.YtkbalokicnogbaaGreatGG
import Derived.Test.YtkbalokicnogbaaGreatEqPair

namespace Go.Rt

open Go Go.RowKit Go.Proofs

theorem mulZ_nat (K a b : Nat) : mulZ K (a : Int) (b : Int) = ((nearN (a * b) (2 ^ K) : Nat) : Int) := by
 have h := near_ratio (a * b) (2 ^ K) (Nat.pow_pos (by omega))
 rw [← h]
 rfl

theorem divZ_nat (K a : Nat) {b : Nat} (hb : 0 < b) : divZ K (a : Int) (b : Int) = ((nearN (a * 2 ^ K) b : Nat) : Int) := by
 have h := near_ratio (a * 2 ^ K) b hb
 rw [← h]
 rfl

theorem mulO_nat {K a b c : Nat} (h : nearN (a * b) (2 ^ K) = c) (hc : c < 9223372036854775808) : mulO K (a : Int) (b : Int) = some (c : Int) := by
 unfold mulO
 rw [mulZ_nat, h]
 exact okZ_in (by omega) (by omega)

theorem divO_nat {K a b c : Nat} (hb : 0 < b) (h : nearN (a * 2 ^ K) b = c) (hc : c < 9223372036854775808) : divO K (a : Int) (b : Int) = some (c : Int) := by
 unfold divO
 rw [divZ_nat K a hb, h]
 exact okZ_in (by omega) (by omega)

end Go.Rt
