/-
  Plain laws on numbers of a fixed point.
  Plain laws on schedules: what a step's rate is.
-/
import Derived.Test.YtiebflipijcnfaaGreatGI
namespace Go.Rt
open Go
def fits (z:Int):Bool:=decide (-9223372036854775808≤z∧z < 9223372036854775808)
def fitV (z:Int):Int:=if fits z=true then z else 0
def fitE (z:Int):Int:=if fits z=true then 0 else 2
theorem fits_iff {z:Int}:fits z=true ↔ -9223372036854775808≤z∧z < 9223372036854775808:=by unfold fits;exact decide_eq_true_iff
theorem fitV_in {z:Int} (h:fits z=true):fitV z=z:=if_pos h
theorem fitE_in {z:Int} (h:fits z=true):fitE z=0:=if_pos h
theorem fitV_out {z:Int} (h:fits z=false):fitV z=0:=if_neg (by rw[h];simp)
theorem fitE_out {z:Int} (h:fits z=false):fitE z=2:=if_neg (by rw[h];simp)
theorem near_sgn_ratio (b:Bool) (N d:Nat) (hd:0 < d):nearR ((sgn b N:Int) / (d:Rat))=sgn b (nearN N d):=by
  unfold sgn
  cases b
  · simp only[Bool.false_eq_true,if_false]
    rw[Rat.intCast_natCast]
    exact near_ratio N d hd
  · simp only[if_true]
    rw[Rat.intCast_neg,Rat.intCast_natCast,Rat.div_def,Rat.neg_mul,← Rat.div_def,near_neg,near_ratio N d hd]
theorem sgn_prod {a b:Int}:sgn (decide (a < 0) != decide (b < 0)) (a.natAbs*b.natAbs)=a*b:=sgn_mul rfl rfl
theorem near_mul (a b:Int) (d:Nat) (hd:0 < d):sgn (decide (a < 0) != decide (b < 0)) (nearN (a.natAbs*b.natAbs) d)=nearR (((a*b:Int):Rat) / (d:Rat)):=by
  rw[← near_sgn_ratio _ _ _ hd,sgn_prod]
theorem near_quot (a b:Int) (p:Nat) (hb:b≠0):sgn (decide (a < 0) != decide (b < 0)) (nearN (a.natAbs*p) b.natAbs)=nearR (((a*(p:Int):Int):Rat) / (b:Rat)):=by
  rw[← near_sgn_ratio _ _ _ (by omega)]
  congr 1
  have hbr:(b:Rat)≠0:=by exact_mod_cast hb
  by_cases h:b < 0
  · rw[show (b.natAbs:Rat) = -(b:Rat) by rw[← Rat.intCast_natCast,← Rat.intCast_neg];congr 1;omega]
    have e:sgn (decide (a < 0) != decide (b < 0)) (a.natAbs*p) = -(a*(p:Int)):=by
      rw[decide_eq_true h]
      unfold sgn
      by_cases ha:a < 0
      · rw[decide_eq_true ha]
        simp only[bne_self_eq_false,Bool.false_eq_true,if_false]
        rw[Int.natCast_mul,show ((a.natAbs:Nat):Int) = -a by omega,Int.neg_mul]
      · rw[decide_eq_false ha]
        simp only[Bool.bne_true,Bool.not_false,if_true]
        rw[Int.natCast_mul,show ((a.natAbs:Nat):Int)=a by omega]
    rw[e,Rat.intCast_neg]
    grind
  · rw[show (b.natAbs:Rat)=(b:Rat) by rw[← Rat.intCast_natCast];congr 1;omega]
    have e:sgn (decide (a < 0) != decide (b < 0)) (a.natAbs*p)=a*(p:Int):=by
      rw[decide_eq_false h]
      unfold sgn
      by_cases ha:a < 0
      · rw[decide_eq_true ha]
        simp only[Bool.bne_false,if_true]
        rw[Int.natCast_mul,show ((a.natAbs:Nat):Int) = -a by omega,Int.neg_mul,Int.neg_neg]
      · rw[decide_eq_false ha]
        simp only[bne_self_eq_false,Bool.false_eq_true,if_false]
        rw[Int.natCast_mul,show ((a.natAbs:Nat):Int)=a by omega]
    rw[e]
theorem nearN_ge (N d:Nat):N / d≤nearN N d:=by unfold nearN;split <;> omega
end Go.Rt
namespace Go.Rt
open Go
theorem qdiv_mono {a b c:Rat} (hc:0 < c) (h:a≤b):a / c≤b / c:=by
 have hi:0≤c⁻¹:=by
  have h1:c⁻¹*c=1:=Rat.inv_mul_cancel _ (by intro e;rw[e]at hc;exact absurd hc (by decide))
  cases Rat.le_total (a:=0) (b:=c⁻¹)with
  | inl h=>exact h
  | inr h2=>
   have:=Rat.mul_le_mul_of_nonneg_right h2 (Rat.le_of_lt hc)
   rw[h1,Rat.zero_mul]at this
   exact absurd this (by decide)
 rw[Rat.div_def,Rat.div_def]
 exact Rat.mul_le_mul_of_nonneg_right h hi
theorem natR_pos {d:Nat} (hd:0 < d):(0:Rat) < (d:Rat):=by exact_mod_cast hd
def ratioV (a:Int) (d:Nat):Int:=nearR ((a:Rat) / (d:Rat))
theorem ratio_mono {a b:Int} {d:Nat} (hd:0 < d) (h:a≤b):ratioV a d≤ratioV b d:=
 near_mono (qdiv_mono (natR_pos hd) (Rat.intCast_le_intCast.2 h))
theorem ratio_whole (n:Int) {d:Nat} (hd:0 < d):ratioV (n*(d:Int)) d=n:=by
 unfold ratioV
 rw[Rat.intCast_mul,Rat.intCast_natCast,Rat.mul_div_cancel (by have:=natR_pos hd;grind),near_int]
theorem ratio_zero {d:Nat} (hd:0 < d):ratioV 0 d=0:=by
 have:=ratio_whole 0 hd
 rwa [Int.zero_mul]at this
theorem ratio_nonneg {a:Int} {d:Nat} (hd:0 < d) (h:0≤a):0≤ratioV a d:=by
 have:=ratio_mono hd h
 rwa [ratio_zero hd]at this
/-! ### a step's rate -/
noncomputable def slowV (B W t:Nat):Nat:=rt (B*B*max W 1 / t) 2
def dropV (R K:Nat) (x:Int):Nat→Int
 | 0=>x
 | n+1=>ratioV (dropV R K x n*(R:Int)) (2^K)
def shareV (D:Int) (L P l:Nat):Int:=ratioV (D*((l^P:Nat):Int)) (L^P)
noncomputable def rateV (kd b r e w v l p:Int) (t K:Nat):Int:=
 if (t:Int)≤w then ratioV (b*(t:Int)) w.toNat
 else if kd=1 then ((slowV b.toNat w.toNat t:Nat):Int)
 else if kd=2 then dropV r.toNat K b (min ((t - w.toNat) / v.toNat) 200)
 else if kd=3 then e+shareV (b - e) l.toNat p.toNat (l.toNat - t)
 else b
/-! ### of a right schedule -/
section
variable {kd b r e w v l p f:Int} {K:Nat}
theorem rate_warm {t:Nat} (h:(t:Int)≤w):rateV kd b r e w v l p t K=ratioV (b*(t:Int)) w.toNat:=if_pos h
end
end Go.Rt
