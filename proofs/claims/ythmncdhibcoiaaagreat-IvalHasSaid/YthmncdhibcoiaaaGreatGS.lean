/-
  Plain laws on numbers of a fixed point.
  Plain laws on schedules: what a step's rate is.
-/
import Derived.Test.YthmncdhibcoiaaaGreatGI
import Derived.Test.YthmncdhibcoiaaaGreatGE
namespace Go.Rt

open Go

end Go.Rt

namespace Go.Rt

open Go

/-- a ratio, rounded -/
def ratioV (a : Int) (d : Nat) : Int := nearR ((a : Rat) / (d : Rat))

/-! ### a step's rate -/

noncomputable def slowV (B W t : Nat) : Nat := rt (B * B * max W 1 / t) 2

def dropV (R K : Nat) (x : Int) : Nat → Int
  | 0 => x
  | n + 1 => ratioV (dropV R K x n * (R : Int)) (2 ^ K)

def shareV (D : Int) (L P l : Nat) : Int := ratioV (D * ((l ^ P : Nat) : Int)) (L ^ P)

noncomputable def rateV (kd b r e w v l p : Int) (t K : Nat) : Int :=
  if (t : Int) ≤ w then ratioV (b * (t : Int)) w.toNat
  else if kd = 1 then ((slowV b.toNat w.toNat t : Nat) : Int)
  else if kd = 2 then dropV r.toNat K b (min ((t - w.toNat) / v.toNat) 200)
  else if kd = 3 then e + shareV (b - e) l.toNat p.toNat (l.toNat - t)
  else b

/-! ### of a right schedule -/

section

variable {kd b r e w v l p f : Int} {K : Nat}
theorem rate_warm {t : Nat} (h : (t : Int) ≤ w) : rateV kd b r e w v l p t K = ratioV (b * (t : Int)) w.toNat := if_pos h

end

end Go.Rt
