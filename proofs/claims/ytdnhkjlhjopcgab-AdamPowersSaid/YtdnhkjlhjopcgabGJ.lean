/-
  The reference's fractions: over, Neg, Cmp, Abs.
  The reference's fractions: Abs, Same, Of, Frac.
  The reference's fractions: Frac, Add, Sub.
  The reference's integers: Right, Few.
-/
import Derived.Test.YtdnhkjlhjopcgabGI
namespace Go.Rt
open Go.RowKit Go.Proofs

theorem Bx3.off2 {w : World} {b b' : Nat} {t : TypeId} {x0 y0 z0 : Value} (h : Bx3 w b t x0 y0 z0) (hne : b ≠ b') (x y : Value) : Bx3 ((w.setCell ⟨b', 0, none⟩ x).setCell ⟨b', 1, none⟩ y) b t x0 y0 z0 := (off_set2 w b' x y b hne).trans h

theorem Bx3.off3 {w : World} {b b' : Nat} {t : TypeId} {x0 y0 z0 : Value} (h : Bx3 w b t x0 y0 z0) (hne : b ≠ b') (x y z : Value) : Bx3 (((w.setCell ⟨b', 0, none⟩ x).setCell ⟨b', 1, none⟩ y).setCell ⟨b', 2, none⟩ z) b t x0 y0 z0 := (off_set3 w b' x y z b hne).trans h

theorem Bx2.off2 {w : World} {b b' : Nat} {t : TypeId} {x0 y0 : Value} (h : Bx2 w b t x0 y0) (hne : b ≠ b') (x y : Value) : Bx2 ((w.setCell ⟨b', 0, none⟩ x).setCell ⟨b', 1, none⟩ y) b t x0 y0 := (off_set2 w b' x y b hne).trans h

theorem Bx2.off3 {w : World} {b b' : Nat} {t : TypeId} {x0 y0 : Value} (h : Bx2 w b t x0 y0) (hne : b ≠ b') (x y z : Value) : Bx2 (((w.setCell ⟨b', 0, none⟩ x).setCell ⟨b', 1, none⟩ y).setCell ⟨b', 2, none⟩ z) b t x0 y0 := (off_set3 w b' x y z b hne).trans h

theorem Zw.nat {w : World} {a : Option Addr} {n c N : Nat} (h : Nw w (.slice a n c) N) : Zw w (.agg #[.bool false, .slice a n c]) (N : Int) := ⟨false, a, n, c, rfl, Lib.hid (by simp), by simpa using h⟩

theorem Rw.zed {w : World} {b : Bool} {a : Option Addr} {n c : Nat} {z : Int} (hb : Hid (b = decide (z < 0))) (h : Nw w (.slice a n c) z.natAbs) : Zw w (.agg #[.bool b, .slice a n c]) z := ⟨b, a, n, c, rfl, hb, h⟩

theorem cmpI_mul {x y : Rat} : cmpI (x.num * (y.den : Int)) (y.num * (x.den : Int)) = if x < y then -1 else if y < x then 1 else 0 := by
  unfold cmpI
  simp only [Rat.lt_iff]

end Go.Rt

namespace Go.Rt
open Go.RowKit Go.Proofs

end Go.Rt

namespace Go.Rt
open Go.RowKit Go.Proofs

theorem Try.fieldZ (b : Bool) (a : Option Addr) (n c : Nat) (W : World) : (Instr.field 83 (.agg #[.bool b, .slice a n c]) 1).run Try.prog W = .ok (.slice a n c) W := by kernel_rfl

end Go.Rt

namespace Go.Rt
open Go.RowKit Go.Proofs

end Go.Rt
