/-
  Plain law: division of two limbs by one, by halves of a limb (Knuth's D at two digits).
-/
import Derived.Test.YtiebflipijcnfaaGreatGB
namespace Go.Rt
section
variable {y1 y0 un d q r:Nat}
def dg (y1 y0 un d:Nat):Nat:=(un*B32+d) / (y1*B32+y0)
theorem dg_lt (hy:0 < y1*B32+y0) (hun:un < y1*B32+y0) (hd:d < B32):dg y1 y0 un d < B32:=by
  unfold dg
  rw[Nat.div_lt_iff_lt_mul hy]
  have:(un+1)*B32≤(y1*B32+y0)*B32:=Nat.mul_le_mul_right _ hun
  rw[Nat.add_mul,Nat.one_mul]at this
  rw[Nat.mul_comm B32]
  omega
theorem dg_top (h1:0 < y1) (h31:B32≤2*y1) (hy0:y0 < B32) (hun:un < y1*B32+y0):un / y1≤B32+1:=by
  have:un / y1 < B32+2:=by
    rw[Nat.div_lt_iff_lt_mul h1,Nat.add_mul,Nat.mul_comm B32]
    omega
  omega
theorem dg_start (h1:0 < y1) (hd:d < B32):dg y1 y0 un d≤un / y1:=by
  unfold dg
  refine Nat.le_trans (Nat.div_le_div_left (c:=y1*B32) (by omega) (Nat.mul_pos h1 (by decide))) ?_
  rw[Nat.mul_comm y1,← Nat.div_div_eq_div_mul]
  have:(un*B32+d) / B32=un:=by
    rw[Nat.mul_comm,Nat.mul_add_div (by decide),Nat.div_eq_of_lt hd];rfl
  rw[this]
  exact Nat.le_refl _
theorem dg_prod (h:q*y1+r=un):un*B32+d=q*(y1*B32)+(B32*r+d):=by
  rw[← h,Nat.add_mul,Nat.mul_assoc,Nat.mul_comm r,Nat.add_assoc]
theorem dg_over (hy:0 < y1*B32+y0) (h:q*y1+r=un) (hc:B32*r+d < q*y0):dg y1 y0 un d < q:=by
  unfold dg
  rw[Nat.div_lt_iff_lt_mul hy,dg_prod h,Nat.mul_add]
  omega
theorem dg_done (hy:0 < y1*B32+y0) (h:q*y1+r=un) (hc:q*y0≤B32*r+d):q≤dg y1 y0 un d:=by
  unfold dg
  rw[Nat.le_div_iff_mul_le hy,dg_prod h,Nat.mul_add]
  omega
theorem dg_break (hy:0 < y1*B32+y0) (hy0:y0 < B32) (h:q*y1+r=un) (hq:q≤B32) (hr:B32≤r):q≤dg y1 y0 un d:=by
  refine dg_done hy h ?_
  have h1:q*y0≤B32*B32:=Nat.mul_le_mul hq (Nat.le_of_lt hy0)
  have h2:B32*B32≤B32*r:=Nat.mul_le_mul_left _ hr
  omega
theorem dg_rest:un*B32+d=dg y1 y0 un d*(y1*B32+y0)+(un*B32+d) % (y1*B32+y0):=by
  unfold dg
  have:=Nat.div_add_mod (un*B32+d) (y1*B32+y0)
  rw[Nat.mul_comm]at this
  omega
end
theorem dg_two {y un a b:Nat} (hy:0 < y):
    ((un*B32+a) / y*B32+((un*B32+a) % y*B32+b) / y)=(un*B64+(a*B32+b)) / y∧((un*B32+a) % y*B32+b) % y=(un*B64+(a*B32+b)) % y:=by
  have e:un*B64+(a*B32+b)=(un*B32+a)*B32+b:=by
    rw[Nat.add_mul,Nat.mul_assoc,show B32*B32=B64 from rfl];omega
  have h1:=Nat.div_add_mod (un*B32+a) y
  generalize hq:(un*B32+a) / y=q1 at *
  generalize hr:(un*B32+a) % y=r1 at *
  have e2:un*B64+(a*B32+b)=r1*B32+b+y*(q1*B32):=by
    rw[e,← h1,Nat.add_mul,Nat.mul_assoc];omega
  rw[e2,Nat.add_mul_div_left _ _ hy,Nat.add_mul_mod_self_left]
  exact⟨Nat.add_comm _ _,rfl⟩
theorem dg_shift {N y:Nat} (s:Nat):(N*2^s) / (y*2^s)=N / y∧(N*2^s) % (y*2^s) / 2^s=N % y:=by
  have h2:=Nat.two_pow_pos s
  refine⟨Nat.mul_div_mul_right _ _ h2,?_⟩
  rw[Nat.mul_mod_mul_right,Nat.mul_div_cancel _ h2]
end Go.Rt
