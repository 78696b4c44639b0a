/-
  The laws of chapter 08 (numbers of a fixed point): Reckons: its walk.
-/
import Derived.Test.YtkmilnnbmamknaaGreatRef08b
namespace Go.Rt
open Go.RowKit Go.Proofs

theorem Tryz.ref08MulV (a b : Int) (K : Nat) (hK : K ≤ 40) (w : World) (ha1 : -9223372036854775808 ≤ a) (ha2 : a < 9223372036854775808) (hb1 : -9223372036854775808 ≤ b) (hb2 : b < 9223372036854775808) {V E : Int} (hV : fitV (nearR (((a * b : Int) : Rat) / ((2 ^ K : Nat) : Rat))) = V) (hE : fitE (nearR (((a * b : Int) : Rat) / ((2 ^ K : Nat) : Rat))) = E) :
    Calls Tryz.prog 19 #[.int .i64 a, .int .i64 b, .int .i64 (K : Int)] w fun e w' => e = .returned (.tuple #[.int .i64 V, .int .i64 E]) ∧ Ext w w' := by
  subst hV
  subst hE
  exact Tryz.ref08Mul a b K hK w ha1 ha2 hb1 hb2

theorem Tryz.ref08ScaleV (a b : Int) (d : Nat) (w : World) (ha1 : -9223372036854775808 ≤ a) (ha2 : a < 9223372036854775808) (hb1 : -9223372036854775808 ≤ b) (hb2 : b < 9223372036854775808) (hd0 : 0 < d) (hd : d < 9223372036854775808) {V E : Int} (hV : fitV (nearR (((a * b : Int) : Rat) / (d : Rat))) = V) (hE : fitE (nearR (((a * b : Int) : Rat) / (d : Rat))) = E) :
    Calls Tryz.prog 16 #[.int .i64 a, .int .i64 b, .int .i64 (d : Int)] w fun e w' => e = .returned (.tuple #[.int .i64 V, .int .i64 E]) ∧ Ext w w' := by
  subst hV
  subst hE
  exact Tryz.ref08Scale a b d w ha1 ha2 hb1 hb2 hd0 hd

end Go.Rt
