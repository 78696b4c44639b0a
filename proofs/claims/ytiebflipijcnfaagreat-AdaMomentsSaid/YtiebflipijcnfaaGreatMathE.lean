/-
  Plain law: a digit's multiple taken from a window, and given back.
-/
import Derived.Test.YtiebflipijcnfaaGreatGC
import Derived.Test.YtiebflipijcnfaaGreatMathD
namespace Go.Rt
theorem take_step {U' U V q Bk cb uj vj h l c l' c' b b' s:Nat} (hev:U'+q*V=U+Bk*(cb+b)) (hhl:q*vj=h*B64+l) (hc:l'+B64*c=l+cb) (hc':c'=h+c) (hs:s+l'+b=uj+B64*b'):
    (U'+Bk*s)+q*(V+Bk*vj)=(U+Bk*uj)+(Bk*B64)*(c'+b'):=by
  have e1:s+q*vj+cb+b=uj+B64*(c'+b'):=by
    rw[hhl,hc',Nat.mul_add,Nat.mul_add,Nat.mul_comm h B64];omega
  have e2:Bk*(s+q*vj+cb+b)=Bk*(uj+B64*(c'+b')):=by rw[e1]
  have e3:q*(V+Bk*vj)=q*V+Bk*(q*vj):=by rw[Nat.mul_add,Nat.mul_left_comm]
  rw[e3,Nat.mul_assoc]
  simp only[Nat.mul_add]at *
  omega
theorem carry_fit {q vj h l c l' cb:Nat} (hq:q < B64) (hv:vj < B64) (hcb:cb < B64) (hhl:q*vj=h*B64+l) (hc:l'+B64*c=l+cb):h+c < B64:=by
  have h1:q*vj≤(B64 - 1)*(B64 - 1):=Nat.mul_le_mul (by omega) (by omega)
  have h2:(h+c)*B64≤q*vj+cb:=by rw[hhl,Nat.add_mul,Nat.mul_comm c];omega
  have h3:(B64 - 1)*(B64 - 1)+B64≤B64*B64:=by decide
  have h4:(h+c)*B64 < B64*B64:=by omega
  exact Nat.lt_of_mul_lt_mul_right h4
theorem give_step {U' U V Bk uj vj s c c':Nat} (hev:U'+Bk*c=U+V) (hs:s+B64*c'=uj+vj+c):
    (U'+Bk*s)+(Bk*B64)*c'=(U+Bk*uj)+(V+Bk*vj):=by
  have e2:Bk*(s+B64*c')=Bk*(uj+vj+c):=by rw[hs]
  rw[Nat.mul_assoc]
  simp only[Nat.mul_add]at *
  omega
end Go.Rt
