/-
  Which integers and fractions are right, and of few limbs.
  Arrays of two whole numbers, compared.
  Numbers of a fixed point: size, sided, by.
  Numbers of a fixed point: two limbs by one, to the nearest.
  Numbers of a fixed point: sums, products, quotients, scaled.
  Integers as numbers of 64 bits; roots of a fixed point.
-/
import Derived.Test.YtiebflipijcnfaaGreatGM
import Derived.ChangeKeysEq
import Derived.Test.YtiebflipijcnfaaGreatGS
import Derived.Test.YtiebflipijcnfaaGreatGG
namespace Go.Rt
open Go.RowKit Go.Proofs
theorem Nt.slice {W:World} {a:Option Addr} {n c:Nat} {xs:List Nat} (h:Nt W (.slice a n c) xs):n=xs.length:=by
 obtain⟨_,_,_,_,e,_⟩:=h
 cases e
 rfl
theorem Nt.nw {W:World} {v:Value} {xs:List Nat} (h:Nt W v xs) (hn:normB xs=true):Nw W v (ev B64 xs):=⟨xs,h,normB_iff.1 hn,rfl⟩
def smallN (N:Nat):Nat:=if N < B64 then N else 0
def smallB (N:Nat):Bool:=decide (N < B64)
set_option maxHeartbeats 400000 in
theorem Tryz.natSmall {v:Value} {N:Nat} {w:World} (h:Nw w v N):
  Calls Tryz.prog 39 #[v] w fun e w'=>e=.returned (.tuple #[.int .u64 ((smallN N:Nat):Int),.bool (smallB N)])∧w=w':=by
 obtain⟨xs,⟨a,b,o,cap,rfl,hs,hl⟩,hn,he⟩:=h
 have hlen:=fun L=>len_le_iff (by rw[B64_eq];omega) hl hn L
 match xs,hs,hl,hn,he,hlen with
 | [],hs,hl,hn,he,hlen=>
  have H1:Hid (smallN N=0):=Lib.hid (by rw[← he];unfold smallN;split <;> rfl)
  have H2:Hid (smallB N=true):=Lib.hid (by rw[← he];exact decide_eq_true B64_pos)
  clear hs hl hn he hlen
  go_enter Tryz.func39,Tryz.ntmps39
  go_wp2;go_ret2
  exact⟨by rw[H1.out,H2.out];rfl,rfl⟩
 | [x],hs,hl,hn,he,hlen=>
  obtain rfl:=hs.addr (by simp)
  have hc:=hs.cell (i:=0) (by simp)
  have hxb:=lg_lt hl 0
  have hx:ev B64 [x]=lg [x] 0:=ev_single _ _
  have H1:Hid (smallN N=lg [x] 0):=Lib.hid (by rw[← he,hx];unfold smallN;rw[if_pos hxb])
  have H2:Hid (smallB N=true):=Lib.hid (by rw[← he,hx];exact decide_eq_true hxb)
  generalize lg [x] 0=y at *
  clear hs hl hn he hlen hx hxb
  simp only[Nat.add_zero]at hc
  go_enter Tryz.func39,Tryz.ntmps39
  go_wp2;go_ret2
  exact⟨by rw[H1.out,H2.out];rfl,rfl⟩
 | x :: y :: r,hs,hl,hn,he,hlen=>
  have hbig:¬ N < B64:=fun hlt=>by
   have:=(hlen 1).2 (by rw[he,Nat.pow_one];exact hlt)
   simp at this
  have H1:Hid (smallN N=0):=Lib.hid (if_neg hbig)
  have H2:Hid (smallB N=false):=Lib.hid (decide_eq_false hbig)
  have l1:(((x :: y :: r).length:Int)==0)=false:=beq_eq_false_iff_ne.2 (by simp;omega)
  have l2:(((x :: y :: r).length:Int)==1)=false:=beq_eq_false_iff_ne.2 (by simp;omega)
  generalize (x :: y :: r).length=n at *
  clear hs hl hn he hlen hbig
  go_enter Tryz.func39,Tryz.ntmps39
  go_wp2;go_ret2
  exact⟨by rw[H1.out,H2.out];rfl,rfl⟩
end Go.Rt
namespace Go.Rt
open Go
theorem run_eqPair {P:Program} {t e:TypeId} {k:IntKind} (d:Nat) (hu:P.underlying t=some (.array 2 e)) (hp:P.plainKey e=true) (hc:P.cellsOf e=1)
    (he:P.underlying e=some (.int k)) (x y x' y':Int) (w:World):
    (Op.equalIn (d+2) t (.agg #[.int k x,.int k y]) (.agg #[.int k x',.int k y'])).run P w=.ok (x==x' && y==y') w:=by
  obtain⟨i,hi⟩:=info_of_underlying he
  rw[show d+2=(d+1)+1 from rfl,run_equalIn_array w (d+1) _ _ hu hi,hc,show List.range 2=[0,1] from rfl]
  have r:∀ (a b:Int) (w:World),(Op.equalIn (d+1) e (.int k a) (.int k b)).run P w=.ok (a==b) w:=fun a b w=>run_equalIn_int w d e k k a b he
  have p0:∀ (a b:Int) (w:World),(part e #[.int k a,.int k b] 0).run P w=.ok (.int k a) w:=fun a b w=>run_part_plain w hp rfl
  have p1:∀ (a b:Int) (w:World),(part e #[.int k a,.int k b] 1).run P w=.ok (.int k b) w:=fun a b w=>run_part_plain w hp rfl
  by_cases h:x=x'
  · by_cases h':y=y'
    · simp[Op.eqItems,r,p0,p1,h,h']
    · simp[Op.eqItems,r,p0,p1,h,h']
  · simp[Op.eqItems,r,p0,p1,h]
end Go.Rt
namespace Go.Rt
open Go.RowKit Go.Proofs
def fracB (f:Int):Bool:=decide (0≤f∧f≤40)
set_option maxHeartbeats 400000 in
theorem Tryz.fixIsFrac (f:Int) (w:World):Calls Tryz.prog 112 #[.int .i64 f] w fun e w'=>e=.returned (.bool (fracB f))∧w=w':=by
 by_cases h1:0≤f
 ·by_cases h2:f≤40
  ·have HR:Hid (true=fracB f):=Lib.hid (decide_eq_true (p:=0≤f∧f≤40) ⟨h1,h2⟩).symm
   go_enter Tryz.func112,Tryz.ntmps112
   go_wp2
   all_goals go_ret
   all_goals exact⟨ret_b HR.out,rfl⟩
  ·have HR:Hid (false=fracB f):=Lib.hid (decide_eq_false (p:=0≤f∧f≤40) (fun h=>h2 h.2)).symm
   have h2':decide (f≤40)=false:=decide_eq_false h2
   go_enter Tryz.func112,Tryz.ntmps112
   go_wp2
   all_goals go_ret
   all_goals exact⟨ret_b HR.out,rfl⟩
 ·have HR:Hid (false=fracB f):=Lib.hid (decide_eq_false (p:=0≤f∧f≤40) (fun h=>h1 h.1)).symm
  have h1':decide (0≤f)=false:=decide_eq_false h1
  go_enter Tryz.func112,Tryz.ntmps112
  go_wp2
  all_goals go_ret
  all_goals exact⟨ret_b HR.out,rfl⟩
set_option maxHeartbeats 400000 in
theorem Tryz.fixSize (n:Int) (w:World) (h1:-9223372036854775808≤n) (h2:n < 9223372036854775808):
  Calls Tryz.prog 110 #[.int .i64 n] w fun e w'=>e=.returned (.int .u64 ((n.natAbs:Nat):Int))∧w=w':=by
 obtain⟨M,hM⟩:∃ M,M=n.natAbs:=⟨_,rfl⟩
 rw[← hM]
 by_cases hn:n < 0
 ·have hM2:n = -(M:Int):=by omega
  subst hM2
  have hM0:0 < M:=by omega
  have e1:IntKind.u64.wrap (-(M:Int))=18446744073709551616 - (M:Int):=by rw[IntKind.wrap_u64];omega
  have e2:IntKind.u64.wrap (-(18446744073709551616 - (M:Int)))=(M:Int):=by rw[IntKind.wrap_u64];omega
  clear hM
  go_enter Tryz.func110,Tryz.ntmps110
  go_wp2
  all_goals go_ret
  all_goals exact⟨rfl,rfl⟩
 ·have hM2:n=(M:Int):=by omega
  subst hM2
  have e1:IntKind.u64.wrap (M:Int)=(M:Int):=by rw[IntKind.wrap_u64];omega
  clear hM
  go_enter Tryz.func110,Tryz.ntmps110
  go_wp2
  all_goals go_ret
  all_goals exact⟨rfl,rfl⟩
set_option maxHeartbeats 400000 in
theorem Tryz.fixSided (b:Bool) (N:Nat) (w:World) (h:N < 18446744073709551616):
  Calls Tryz.prog 124 #[.bool b,.int .u64 (N:Int)] w fun e w'=>e=.returned (.tuple #[.int .i64 (fitV (sgn b N)),.int .i64 (fitE (sgn b N))])∧w=w':=by
 cases b
 ·by_cases hf:N≤9223372036854775807
  ·have hfI:(N:Int)≤9223372036854775807:=by omega
   have hfit:fits (sgn false N)=true:=fits_iff.2 (by unfold sgn;simp;omega)
   have HV:Hid (fitV (sgn false N)=(N:Int)):=Lib.hid (fitV_in hfit)
   have HE:Hid (fitE (sgn false N)=0):=Lib.hid (fitE_in hfit)
   have e1:IntKind.i64.wrap (N:Int)=(N:Int):=by rw[IntKind.wrap_i64];omega
   clear hfit
   go_enter Tryz.func124,Tryz.ntmps124
   go_wp2
   go_ret2
   exact⟨by rw[HV.out,HE.out];rfl,rfl⟩
  ·have hfI:¬ (N:Int)≤9223372036854775807:=by omega
   have hfd:decide (N≤9223372036854775807)=false:=decide_eq_false hf
   have hfd2:decide ((N:Int)≤9223372036854775807)=false:=decide_eq_false hfI
   have hfit:fits (sgn false N)=false:=by cases hq:fits (sgn false N);rfl;have:=fits_iff.1 hq;unfold sgn at this;simp at this;omega
   have HV:Hid (fitV (sgn false N)=0):=Lib.hid (fitV_out hfit)
   have HE:Hid (fitE (sgn false N)=2):=Lib.hid (fitE_out hfit)
   clear hfit
   go_enter Tryz.func124,Tryz.ntmps124
   go_wp2
   go_ret2
   exact⟨by rw[HV.out,HE.out];rfl,rfl⟩
 ·by_cases hf:N≤9223372036854775808
  ·have hfI:(N:Int)≤9223372036854775808:=by omega
   have hfit:fits (sgn true N)=true:=fits_iff.2 (by unfold sgn;simp;omega)
   have HV:Hid (fitV (sgn true N) = -(N:Int)):=Lib.hid (fitV_in hfit)
   have HE:Hid (fitE (sgn true N)=0):=Lib.hid (fitE_in hfit)
   have e1:IntKind.i64.wrap (IntKind.u64.wrap (-(N:Int))) = -(N:Int):=by rw[IntKind.wrap_u64,IntKind.wrap_i64];omega
   clear hfit
   go_enter Tryz.func124,Tryz.ntmps124
   go_wp2
   go_ret2
   exact⟨by rw[HV.out,HE.out];rfl,rfl⟩
  ·have hfI:¬ (N:Int)≤9223372036854775808:=by omega
   have hfd:decide (N≤9223372036854775808)=false:=decide_eq_false hf
   have hfd2:decide ((N:Int)≤9223372036854775808)=false:=decide_eq_false hfI
   have hfit:fits (sgn true N)=false:=by cases hq:fits (sgn true N);rfl;have:=fits_iff.1 hq;unfold sgn at this;simp at this;omega
   have HV:Hid (fitV (sgn true N)=0):=Lib.hid (fitV_out hfit)
   have HE:Hid (fitE (sgn true N)=2):=Lib.hid (fitE_out hfit)
   clear hfit
   go_enter Tryz.func124,Tryz.ntmps124
   go_wp2
   go_ret2
   exact⟨by rw[HV.out,HE.out];rfl,rfl⟩
end Go.Rt
namespace Go.Rt
open Go.RowKit Go.Proofs
theorem bits_and1_u64 (a:Nat) (ha:a < 18446744073709551616):bits .and .u64 (a:Int) 1=((a % 2:Nat):Int):=by
 have h1:(BitVec.ofInt 64 (a:Int)).toNat=a:=by
  rw[BitVec.ofInt_natCast,BitVec.toNat_ofNat];exact Nat.mod_eq_of_lt (by omega)
 have h2:(BitVec.ofInt 64 (1:Int)).toNat=1:=by decide
 show IntKind.u64.wrap ((BitVec.ofInt 64 (a:Int) &&& BitVec.ofInt 64 (1:Int)).toNat:Int)=_
 rw[BitVec.toNat_and,h1,h2,IntKind.wrap_u64,Nat.and_one_is_mod]
 omega
theorem fits_big (b:Bool) {N:Nat} (h:18446744073709551616≤N):fits (sgn b N)=false:=by
 cases hq:fits (sgn b N)
 ·rfl
 ·have:=fits_iff.1 hq
  unfold sgn at this
  cases b <;> simp at this <;> omega
set_option maxRecDepth 100000 in
set_option maxHeartbeats 8000000 in
theorem Tryz.fixBy (b:Bool) (hi lo d:Nat) (w:World) (_hhi:hi < 18446744073709551616) (hlo:lo < 18446744073709551616) (hd0:0 < d) (hd:d < 18446744073709551616):
  Calls Tryz.prog 111 #[.bool b,.agg #[.int .u64 (hi:Int),.int .u64 (lo:Int)],.int .u64 (d:Int)] w fun e w'=>
   e=.returned (.tuple #[.int .i64 (fitV (sgn b (nearN (hi*B64+lo) d))),.int .i64 (fitE (sgn b (nearN (hi*B64+lo) d)))])∧Ext w w':=by
 obtain⟨N,hN⟩:∃ N,N=hi*B64+lo:=⟨_,rfl⟩
 rw[← hN]
 obtain⟨W0,hW0,E0,p0⟩:=boxed1 w 136 #[.int .u64 (hi:Int),.int .u64 (lo:Int)]
 replace p0:=p0.b2
 have k0:=p0.cell0
 have k1:=p0.cell1
 by_cases hge:d≤hi
 ·have hgeI:(d:Int)≤(hi:Int):=by omega
  have hfit:fits (sgn b (nearN N d))=false:=fits_big b (by
   have h1:=nearN_ge N d
   have h2:18446744073709551616≤N / d:=by rw[Nat.le_div_iff_mul_le hd0,hN,B64_eq];have:18446744073709551616*d≤18446744073709551616*hi:=Nat.mul_le_mul_left _ hge;omega
   omega)
  have HV:Hid (fitV (sgn b (nearN N d))=0):=Lib.hid (fitV_out hfit)
  have HE:Hid (fitE (sgn b (nearN N d))=2):=Lib.hid (fitE_out hfit)
  clear hfit hN p0
  go_enter Tryz.func111,Tryz.ntmps111
  rw[HV.out,HE.out]
  go_wp2;go_ret2
  exact⟨rfl,by rw[← hW0];exact E0⟩
 ·have hlt:hi < d:=by omega
  have hgeI:¬ (d:Int)≤(hi:Int):=by omega
  obtain⟨Q,hQ⟩:∃ Q,Q=N / d:=⟨_,rfl⟩
  obtain⟨R,hR⟩:∃ R,R=N % d:=⟨_,rfl⟩
  have hRd:R < d:=by rw[hR];exact Nat.mod_lt _ hd0
  have hQb:Q < 18446744073709551616:=by
   rw[hQ,Nat.div_lt_iff_lt_mul hd0,hN,B64_eq]
   have:(hi+1)*18446744073709551616≤d*18446744073709551616:=Nat.mul_le_mul_right _ hlt
   omega
  have hdv:∀ W,Calls Tryz.prog 101 #[.int .u64 (hi:Int),.int .u64 (lo:Int),.int .u64 (d:Int)] W fun e w'=>(∃ k,w'=W.drewN k)∧e=.returned (.tuple #[.int .u64 (Q:Int),.int .u64 (R:Int)]):=fun W=>by
   rw[hQ,hR,hN]
   exact Tryz.div64 hlt (by rw[B64_eq];exact hlo) (by rw[B64_eq];exact hd) W
  have near:nearN N d=if d < 2*R∨(2*R=d∧Q % 2=1) then Q+1 else Q:=by unfold nearN;rw[← hQ,← hR]
  clear hQ hR hN
  have HDV:=Lib.hid hdv
  clear hdv
  by_cases hA:18446744073709551616≤2*R
  ·obtain⟨s,hs⟩:∃ s,s+18446744073709551616=R+R:=⟨R+R - 18446744073709551616,by omega⟩
   by_cases hq:Q=18446744073709551615
   ·subst hq
    have hadd:∀ W,(callFunc 105 #[.int .u64 (R:Int),.int .u64 (R:Int),.int .u64 0]).run Tryz.prog W=.ok (.value (.tuple #[.int .u64 ((s:Int)),.int .u64 (1:Int)])) W:=fun W=>by
     have:=Tryz.add64 (x:=R) (y:=R) (c:=0) (s:=s) (d:=1) (by omega) (by rw[B64_eq];omega) (by rw[B64_eq];omega) W
     simpa using this
    have hfit:fits (sgn b (nearN N d))=false:=fits_big b (by rw[near,if_pos (Or.inl (by omega))];omega)
    have HV:Hid (fitV (sgn b (nearN N d))=0):=Lib.hid (fitV_out hfit)
    have HE:Hid (fitE (sgn b (nearN N d))=2):=Lib.hid (fitE_out hfit)
    rw[HV.out,HE.out]
    clear hfit HV HE;clear near hs
    go_enter Tryz.func111,Tryz.ntmps111
    go_wp2_with fail
    rw[← hW0]
    clear hW0
    refine(HDV.out _).mono ?_
    intro e w1 hq1
    obtain⟨⟨kk,hk1⟩,hq1⟩:=hq1
    subst hk1
    subst hq1
    obtain⟨W1,hW1⟩:∃ W1,W1=W0.drewN kk:=⟨_,rfl⟩
    have E1:Ext w W1:=by rw[hW1];exact E0.drewN kk
    rw[← hW1]
    clear HDV k0 k1 E0 p0 hW1;go_wp2;go_ret2
    exact⟨rfl,by first | exact E1.alloc _ | exact E1⟩
   ·have hqI:((Q:Int)==18446744073709551615)=false:=beq_eq_false_iff_ne.2 (by omega)
    have hwr:IntKind.u64.wrap ((Q:Int)+1)=((Q+1:Nat):Int):=by rw[IntKind.wrap_u64];omega
    have hwr2:((Q:Int)+1)=((Q+1:Nat):Int):=rfl
    clear hwr2
    have hadd:∀ W,(callFunc 105 #[.int .u64 (R:Int),.int .u64 (R:Int),.int .u64 0]).run Tryz.prog W=.ok (.value (.tuple #[.int .u64 ((s:Int)),.int .u64 (1:Int)])) W:=fun W=>by
     have:=Tryz.add64 (x:=R) (y:=R) (c:=0) (s:=s) (d:=1) (by omega) (by rw[B64_eq];omega) (by rw[B64_eq];omega) W
     simpa using this
    have near2:nearN N d=Q+1:=by rw[near,if_pos (Or.inl (by omega))]
    rw[near2];clear near2;clear near hs
    go_enter Tryz.func111,Tryz.ntmps111
    go_wp2_with fail
    rw[← hW0]
    clear hW0
    refine(HDV.out _).mono ?_
    intro e w1 hq1
    obtain⟨⟨kk,hk1⟩,hq1⟩:=hq1
    subst hk1
    subst hq1
    obtain⟨W1,hW1⟩:∃ W1,W1=W0.drewN kk:=⟨_,rfl⟩
    have E1:Ext w W1:=by rw[hW1];exact E0.drewN kk
    rw[← hW1]
    clear HDV k0 k1 E0 p0 hW1
    go_wp2_with fail
    refine(Tryz.fixSided b (Q+1) _ (by omega)).mono ?_
    rintro e w2 ⟨rfl,rfl⟩
    go_wp2;go_ret2
    exact⟨rfl,by first | exact E1.alloc _ | exact E1⟩
  ·obtain⟨s,hs⟩:∃ s,s=R+R:=⟨_,rfl⟩
   by_cases hB:d < s
   ·have hBI:(d:Int) < (s:Int):=by omega
    by_cases hq:Q=18446744073709551615
    ·subst hq
     have hadd:∀ W,(callFunc 105 #[.int .u64 (R:Int),.int .u64 (R:Int),.int .u64 0]).run Tryz.prog W=.ok (.value (.tuple #[.int .u64 ((s:Int)),.int .u64 (0:Int)])) W:=fun W=>by
      have:=Tryz.add64 (x:=R) (y:=R) (c:=0) (s:=s) (d:=0) (by omega) (by rw[B64_eq];omega) (by rw[B64_eq];omega) W
      simpa using this
     have hfit:fits (sgn b (nearN N d))=false:=fits_big b (by rw[near,if_pos (Or.inl (by omega))];omega)
     have HV:Hid (fitV (sgn b (nearN N d))=0):=Lib.hid (fitV_out hfit)
     have HE:Hid (fitE (sgn b (nearN N d))=2):=Lib.hid (fitE_out hfit)
     rw[HV.out,HE.out]
     clear hfit HV HE;clear near hs
     go_enter Tryz.func111,Tryz.ntmps111
     go_wp2_with fail
     rw[← hW0]
     clear hW0
     refine(HDV.out _).mono ?_
     intro e w1 hq1
     obtain⟨⟨kk,hk1⟩,hq1⟩:=hq1
     subst hk1
     subst hq1
     obtain⟨W1,hW1⟩:∃ W1,W1=W0.drewN kk:=⟨_,rfl⟩
     have E1:Ext w W1:=by rw[hW1];exact E0.drewN kk
     rw[← hW1]
     clear HDV k0 k1 E0 p0 hW1;go_wp2;go_ret2
     exact⟨rfl,by first | exact E1.alloc _ | exact E1⟩
    ·have hqI:((Q:Int)==18446744073709551615)=false:=beq_eq_false_iff_ne.2 (by omega)
     have hwr:IntKind.u64.wrap ((Q:Int)+1)=((Q+1:Nat):Int):=by rw[IntKind.wrap_u64];omega
     have hwr2:((Q:Int)+1)=((Q+1:Nat):Int):=rfl
     clear hwr2
     have hadd:∀ W,(callFunc 105 #[.int .u64 (R:Int),.int .u64 (R:Int),.int .u64 0]).run Tryz.prog W=.ok (.value (.tuple #[.int .u64 ((s:Int)),.int .u64 (0:Int)])) W:=fun W=>by
      have:=Tryz.add64 (x:=R) (y:=R) (c:=0) (s:=s) (d:=0) (by omega) (by rw[B64_eq];omega) (by rw[B64_eq];omega) W
      simpa using this
     have near2:nearN N d=Q+1:=by rw[near,if_pos (Or.inl (by omega))]
     rw[near2];clear near2;clear near hs
     go_enter Tryz.func111,Tryz.ntmps111
     go_wp2_with fail
     rw[← hW0]
     clear hW0
     refine(HDV.out _).mono ?_
     intro e w1 hq1
     obtain⟨⟨kk,hk1⟩,hq1⟩:=hq1
     subst hk1
     subst hq1
     obtain⟨W1,hW1⟩:∃ W1,W1=W0.drewN kk:=⟨_,rfl⟩
     have E1:Ext w W1:=by rw[hW1];exact E0.drewN kk
     rw[← hW1]
     clear HDV k0 k1 E0 p0 hW1
     go_wp2_with fail
     refine(Tryz.fixSided b (Q+1) _ (by omega)).mono ?_
     rintro e w2 ⟨rfl,rfl⟩
     go_wp2;go_ret2
     exact⟨rfl,by first | exact E1.alloc _ | exact E1⟩
   ·have hBI:¬ (d:Int) < (s:Int):=by omega
    have hBd:decide (d < s)=false:=decide_eq_false hB
    by_cases hC:s=d
    ·have hC':=hC.symm
     subst hC'
     by_cases hod:Q % 2=1
     ·have hb1:(bits .and .u64 (Q:Int) 1==1)=true:=by rw[bits_and1_u64 Q hQb,hod];rfl
      by_cases hq:Q=18446744073709551615
      ·subst hq
       have hadd:∀ W,(callFunc 105 #[.int .u64 (R:Int),.int .u64 (R:Int),.int .u64 0]).run Tryz.prog W=.ok (.value (.tuple #[.int .u64 ((d:Int)),.int .u64 (0:Int)])) W:=fun W=>by
        have:=Tryz.add64 (x:=R) (y:=R) (c:=0) (s:=d) (d:=0) (by omega) (by rw[B64_eq];omega) (by rw[B64_eq];omega) W
        simpa using this
       have hfit:fits (sgn b (nearN N d))=false:=fits_big b (by rw[near,if_pos (Or.inr ⟨by omega,hod⟩)];omega)
       have HV:Hid (fitV (sgn b (nearN N d))=0):=Lib.hid (fitV_out hfit)
       have HE:Hid (fitE (sgn b (nearN N d))=2):=Lib.hid (fitE_out hfit)
       rw[HV.out,HE.out]
       clear hfit HV HE;clear near hs
       have heq:∀ W,(Op.equalIn 10000 136 (.agg #[.int .u64 0,.int .u64 (d:Int)]) (.agg #[.int .u64 0,.int .u64 (d:Int)])).run Tryz.prog W=.ok true W:=fun W=>by
        have:=run_eqPair (P:=Tryz.prog) (t:=136) (e:=61) (k:=.u64) 9998 (by kernel_rfl) (by kernel_rfl) (by kernel_rfl) (by kernel_rfl) 0 (d:Int) 0 (d:Int) W
        simpa using this
       go_enter Tryz.func111,Tryz.ntmps111
       go_wp2_with fail
       rw[← hW0]
       clear hW0
       refine(HDV.out _).mono ?_
       intro e w1 hq1
       obtain⟨⟨kk,hk1⟩,hq1⟩:=hq1
       subst hk1
       subst hq1
       obtain⟨W1,hW1⟩:∃ W1,W1=W0.drewN kk:=⟨_,rfl⟩
       have E1:Ext w W1:=by rw[hW1];exact E0.drewN kk
       rw[← hW1]
       clear HDV k0 k1 E0 p0 hW1;go_wp2;go_ret2
       exact⟨rfl,by first | exact E1.alloc _ | exact E1⟩
      ·have hqI:((Q:Int)==18446744073709551615)=false:=beq_eq_false_iff_ne.2 (by omega)
       have hwr:IntKind.u64.wrap ((Q:Int)+1)=((Q+1:Nat):Int):=by rw[IntKind.wrap_u64];omega
       have hwr2:((Q:Int)+1)=((Q+1:Nat):Int):=rfl
       clear hwr2
       have hadd:∀ W,(callFunc 105 #[.int .u64 (R:Int),.int .u64 (R:Int),.int .u64 0]).run Tryz.prog W=.ok (.value (.tuple #[.int .u64 ((d:Int)),.int .u64 (0:Int)])) W:=fun W=>by
        have:=Tryz.add64 (x:=R) (y:=R) (c:=0) (s:=d) (d:=0) (by omega) (by rw[B64_eq];omega) (by rw[B64_eq];omega) W
        simpa using this
       have near2:nearN N d=Q+1:=by rw[near,if_pos (Or.inr ⟨by omega,hod⟩)]
       rw[near2];clear near2;clear near hs
       have heq:∀ W,(Op.equalIn 10000 136 (.agg #[.int .u64 0,.int .u64 (d:Int)]) (.agg #[.int .u64 0,.int .u64 (d:Int)])).run Tryz.prog W=.ok true W:=fun W=>by
        have:=run_eqPair (P:=Tryz.prog) (t:=136) (e:=61) (k:=.u64) 9998 (by kernel_rfl) (by kernel_rfl) (by kernel_rfl) (by kernel_rfl) 0 (d:Int) 0 (d:Int) W
        simpa using this
       go_enter Tryz.func111,Tryz.ntmps111
       go_wp2_with fail
       rw[← hW0]
       clear hW0
       refine(HDV.out _).mono ?_
       intro e w1 hq1
       obtain⟨⟨kk,hk1⟩,hq1⟩:=hq1
       subst hk1
       subst hq1
       obtain⟨W1,hW1⟩:∃ W1,W1=W0.drewN kk:=⟨_,rfl⟩
       have E1:Ext w W1:=by rw[hW1];exact E0.drewN kk
       rw[← hW1]
       clear HDV k0 k1 E0 p0 hW1
       go_wp2_with fail
       refine(Tryz.fixSided b (Q+1) _ (by omega)).mono ?_
       rintro e w2 ⟨rfl,rfl⟩
       go_wp2;go_ret2
       exact⟨rfl,by first | exact E1.alloc _ | exact E1⟩
     ·have hb1:(bits .and .u64 (Q:Int) 1==1)=false:=by rw[bits_and1_u64 Q hQb,show Q % 2=0 by omega];rfl
      have hadd:∀ W,(callFunc 105 #[.int .u64 (R:Int),.int .u64 (R:Int),.int .u64 0]).run Tryz.prog W=.ok (.value (.tuple #[.int .u64 ((d:Int)),.int .u64 (0:Int)])) W:=fun W=>by
       have:=Tryz.add64 (x:=R) (y:=R) (c:=0) (s:=d) (d:=0) (by omega) (by rw[B64_eq];omega) (by rw[B64_eq];omega) W
       simpa using this
      have near2:nearN N d=Q:=by rw[near,if_neg (by omega)]
      rw[near2];clear near2;clear near hs
      have heq:∀ W,(Op.equalIn 10000 136 (.agg #[.int .u64 0,.int .u64 (d:Int)]) (.agg #[.int .u64 0,.int .u64 (d:Int)])).run Tryz.prog W=.ok true W:=fun W=>by
       have:=run_eqPair (P:=Tryz.prog) (t:=136) (e:=61) (k:=.u64) 9998 (by kernel_rfl) (by kernel_rfl) (by kernel_rfl) (by kernel_rfl) 0 (d:Int) 0 (d:Int) W
       simpa using this
      go_enter Tryz.func111,Tryz.ntmps111
      go_wp2_with fail
      rw[← hW0]
      clear hW0
      refine(HDV.out _).mono ?_
      intro e w1 hq1
      obtain⟨⟨kk,hk1⟩,hq1⟩:=hq1
      subst hk1
      subst hq1
      obtain⟨W1,hW1⟩:∃ W1,W1=W0.drewN kk:=⟨_,rfl⟩
      have E1:Ext w W1:=by rw[hW1];exact E0.drewN kk
      rw[← hW1]
      clear HDV k0 k1 E0 p0 hW1
      go_wp2_with fail
      refine(Tryz.fixSided b (Q) _ (by omega)).mono ?_
      rintro e w2 ⟨rfl,rfl⟩
      go_wp2;go_ret2
      exact⟨rfl,by first | exact E1.alloc _ | exact E1⟩
    ·have hCI:((s:Int)==(d:Int))=false:=beq_eq_false_iff_ne.2 (by omega)
     have hCN:(s==d)=false:=beq_eq_false_iff_ne.2 hC
     have hadd:∀ W,(callFunc 105 #[.int .u64 (R:Int),.int .u64 (R:Int),.int .u64 0]).run Tryz.prog W=.ok (.value (.tuple #[.int .u64 ((s:Int)),.int .u64 (0:Int)])) W:=fun W=>by
      have:=Tryz.add64 (x:=R) (y:=R) (c:=0) (s:=s) (d:=0) (by omega) (by rw[B64_eq];omega) (by rw[B64_eq];omega) W
      simpa using this
     have near2:nearN N d=Q:=by rw[near,if_neg (by omega)]
     rw[near2];clear near2;clear near hs
     have heq:∀ W,(Op.equalIn 10000 136 (.agg #[.int .u64 0,.int .u64 (s:Int)]) (.agg #[.int .u64 0,.int .u64 (d:Int)])).run Tryz.prog W=.ok false W:=fun W=>by
      have:=run_eqPair (P:=Tryz.prog) (t:=136) (e:=61) (k:=.u64) 9998 (by kernel_rfl) (by kernel_rfl) (by kernel_rfl) (by kernel_rfl) 0 (s:Int) 0 (d:Int) W
      simpa [hCI,hC] using this
     go_enter Tryz.func111,Tryz.ntmps111
     go_wp2_with fail
     rw[← hW0]
     clear hW0
     refine(HDV.out _).mono ?_
     intro e w1 hq1
     obtain⟨⟨kk,hk1⟩,hq1⟩:=hq1
     subst hk1
     subst hq1
     obtain⟨W1,hW1⟩:∃ W1,W1=W0.drewN kk:=⟨_,rfl⟩
     have E1:Ext w W1:=by rw[hW1];exact E0.drewN kk
     rw[← hW1]
     clear HDV k0 k1 E0 p0 hW1
     go_wp2_with fail
     refine(Tryz.fixSided b (Q) _ (by omega)).mono ?_
     rintro e w2 ⟨rfl,rfl⟩
     go_wp2;go_ret2
     exact⟨rfl,by first | exact E1.alloc _ | exact E1⟩
end Go.Rt
namespace Go.Rt
open Go.RowKit Go.Proofs
set_option maxRecDepth 100000 in
set_option maxHeartbeats 4000000 in
theorem Tryz.fixAdd (a b:Int) (w:World) (ha1:-9223372036854775808≤a) (ha2:a < 9223372036854775808) (hb1:-9223372036854775808≤b) (hb2:b < 9223372036854775808):
  Calls Tryz.prog 83 #[.int .i64 a,.int .i64 b] w fun e w'=>e=.returned (.tuple #[.int .i64 (fitV (a+b)),.int .i64 (fitE (a+b))])∧w=w':=by
 obtain⟨n,hn⟩:∃ n,IntKind.i64.wrap (a+b)=n:=⟨_,rfl⟩
 obtain⟨s,hs⟩:∃ s,s=a+b:=⟨_,rfl⟩
 by_cases hf:fits s=true
 ·have hfs:=fits_iff.1 hf
  by_cases ha:a < 0
  ·by_cases hb:b < 0
   ·have hnv:n=s:=by rw[← hn,← hs,IntKind.wrap_i64];omega
    have hnn:n < 0:=by omega
    have hnd:decide (n < 0)=true:=decide_eq_true hnn
    have hda:decide (a < 0)=true:=decide_eq_true ha
    have hdb:decide (b < 0)=true:=decide_eq_true hb
    have HV:Hid (fitV (a+b)=n):=Lib.hid (by rw[← hs,fitV_in hf];exact hnv.symm)
    have HE:Hid (fitE (a+b)=0):=Lib.hid (by rw[← hs];exact fitE_in hf)
    clear hf hnv hs
    go_enter Tryz.func83,Tryz.ntmps83
    go_wp2;go_ret2
    exact⟨by rw[HV.out,HE.out];rfl,rfl⟩
   ·have hnv:n=s:=by rw[← hn,← hs,IntKind.wrap_i64];omega
    have hda:decide (a < 0)=true:=decide_eq_true ha
    have hdb:decide (b < 0)=false:=decide_eq_false hb
    have HV:Hid (fitV (a+b)=n):=Lib.hid (by rw[← hs,fitV_in hf];exact hnv.symm)
    have HE:Hid (fitE (a+b)=0):=Lib.hid (by rw[← hs];exact fitE_in hf)
    clear hf hnv hs
    go_enter Tryz.func83,Tryz.ntmps83
    go_wp2;go_ret2
    exact⟨by rw[HV.out,HE.out];rfl,rfl⟩
  ·by_cases hb:b < 0
   ·have hnv:n=s:=by rw[← hn,← hs,IntKind.wrap_i64];omega
    have hda:decide (a < 0)=false:=decide_eq_false ha
    have hdb:decide (b < 0)=true:=decide_eq_true hb
    have HV:Hid (fitV (a+b)=n):=Lib.hid (by rw[← hs,fitV_in hf];exact hnv.symm)
    have HE:Hid (fitE (a+b)=0):=Lib.hid (by rw[← hs];exact fitE_in hf)
    clear hf hnv hs
    go_enter Tryz.func83,Tryz.ntmps83
    go_wp2;go_ret2
    exact⟨by rw[HV.out,HE.out];rfl,rfl⟩
   ·have hnv:n=s:=by rw[← hn,← hs,IntKind.wrap_i64];omega
    have hnn:¬ n < 0:=by omega
    have hnd:decide (n < 0)=false:=decide_eq_false hnn
    have hda:decide (a < 0)=false:=decide_eq_false ha
    have hdb:decide (b < 0)=false:=decide_eq_false hb
    have HV:Hid (fitV (a+b)=n):=Lib.hid (by rw[← hs,fitV_in hf];exact hnv.symm)
    have HE:Hid (fitE (a+b)=0):=Lib.hid (by rw[← hs];exact fitE_in hf)
    clear hf hnv hs
    go_enter Tryz.func83,Tryz.ntmps83
    go_wp2;go_ret2
    exact⟨by rw[HV.out,HE.out];rfl,rfl⟩
 ·have hfs:¬ (-9223372036854775808≤s∧s < 9223372036854775808):=fun h=>hf (fits_iff.2 h)
  replace hf:fits s=false:=by cases hq:fits s;rfl;exact absurd hq hf
  by_cases ha:a < 0
  ·by_cases hb:b < 0
   ·have hnv:n=s+18446744073709551616:=by rw[← hn,← hs,IntKind.wrap_i64];omega
    have hnn:¬ n < 0:=by omega
    have hnd:decide (n < 0)=false:=decide_eq_false hnn
    have hda:decide (a < 0)=true:=decide_eq_true ha
    have hdb:decide (b < 0)=true:=decide_eq_true hb
    have HV:Hid (fitV (a+b)=0):=Lib.hid (by rw[← hs];exact fitV_out hf)
    have HE:Hid (fitE (a+b)=2):=Lib.hid (by rw[← hs];exact fitE_out hf)
    clear hf hnv hs
    go_enter Tryz.func83,Tryz.ntmps83
    go_wp2;go_ret2
    exact⟨by rw[HV.out,HE.out];rfl,rfl⟩
   ·omega
  ·by_cases hb:b < 0
   ·omega
   ·have hnv:n=s - 18446744073709551616:=by rw[← hn,← hs,IntKind.wrap_i64];omega
    have hnn:n < 0:=by omega
    have hnd:decide (n < 0)=true:=decide_eq_true hnn
    have hda:decide (a < 0)=false:=decide_eq_false ha
    have hdb:decide (b < 0)=false:=decide_eq_false hb
    have HV:Hid (fitV (a+b)=0):=Lib.hid (by rw[← hs];exact fitV_out hf)
    have HE:Hid (fitE (a+b)=2):=Lib.hid (by rw[← hs];exact fitE_out hf)
    clear hf hnv hs
    go_enter Tryz.func83,Tryz.ntmps83
    go_wp2;go_ret2
    exact⟨by rw[HV.out,HE.out];rfl,rfl⟩
set_option maxRecDepth 100000 in
set_option maxHeartbeats 4000000 in
theorem Tryz.fixSub (a b:Int) (w:World) (ha1:-9223372036854775808≤a) (ha2:a < 9223372036854775808) (hb1:-9223372036854775808≤b) (hb2:b < 9223372036854775808):
  Calls Tryz.prog 46 #[.int .i64 a,.int .i64 b] w fun e w'=>e=.returned (.tuple #[.int .i64 (fitV (a - b)),.int .i64 (fitE (a - b))])∧w=w':=by
 obtain⟨n,hn⟩:∃ n,IntKind.i64.wrap (a - b)=n:=⟨_,rfl⟩
 obtain⟨s,hs⟩:∃ s,s=a - b:=⟨_,rfl⟩
 by_cases hf:fits s=true
 ·have hfs:=fits_iff.1 hf
  by_cases ha:a < 0
  ·by_cases hb:b < 0
   ·have hnv:n=s:=by rw[← hn,← hs,IntKind.wrap_i64];omega
    have hda:decide (a < 0)=true:=decide_eq_true ha
    have hdb:decide (b < 0)=true:=decide_eq_true hb
    have HV:Hid (fitV (a - b)=n):=Lib.hid (by rw[← hs,fitV_in hf];exact hnv.symm)
    have HE:Hid (fitE (a - b)=0):=Lib.hid (by rw[← hs];exact fitE_in hf)
    clear hf hnv hs
    go_enter Tryz.func46,Tryz.ntmps46
    go_wp2;go_ret2
    exact⟨by rw[HV.out,HE.out];rfl,rfl⟩
   ·have hnv:n=s:=by rw[← hn,← hs,IntKind.wrap_i64];omega
    have hnn:n < 0:=by omega
    have hnd:decide (n < 0)=true:=decide_eq_true hnn
    have hda:decide (a < 0)=true:=decide_eq_true ha
    have hdb:decide (b < 0)=false:=decide_eq_false hb
    have HV:Hid (fitV (a - b)=n):=Lib.hid (by rw[← hs,fitV_in hf];exact hnv.symm)
    have HE:Hid (fitE (a - b)=0):=Lib.hid (by rw[← hs];exact fitE_in hf)
    clear hf hnv hs
    go_enter Tryz.func46,Tryz.ntmps46
    go_wp2;go_ret2
    exact⟨by rw[HV.out,HE.out];rfl,rfl⟩
  ·by_cases hb:b < 0
   ·have hnv:n=s:=by rw[← hn,← hs,IntKind.wrap_i64];omega
    have hnn:¬ n < 0:=by omega
    have hnd:decide (n < 0)=false:=decide_eq_false hnn
    have hda:decide (a < 0)=false:=decide_eq_false ha
    have hdb:decide (b < 0)=true:=decide_eq_true hb
    have HV:Hid (fitV (a - b)=n):=Lib.hid (by rw[← hs,fitV_in hf];exact hnv.symm)
    have HE:Hid (fitE (a - b)=0):=Lib.hid (by rw[← hs];exact fitE_in hf)
    clear hf hnv hs
    go_enter Tryz.func46,Tryz.ntmps46
    go_wp2;go_ret2
    exact⟨by rw[HV.out,HE.out];rfl,rfl⟩
   ·have hnv:n=s:=by rw[← hn,← hs,IntKind.wrap_i64];omega
    have hda:decide (a < 0)=false:=decide_eq_false ha
    have hdb:decide (b < 0)=false:=decide_eq_false hb
    have HV:Hid (fitV (a - b)=n):=Lib.hid (by rw[← hs,fitV_in hf];exact hnv.symm)
    have HE:Hid (fitE (a - b)=0):=Lib.hid (by rw[← hs];exact fitE_in hf)
    clear hf hnv hs
    go_enter Tryz.func46,Tryz.ntmps46
    go_wp2;go_ret2
    exact⟨by rw[HV.out,HE.out];rfl,rfl⟩
 ·have hfs:¬ (-9223372036854775808≤s∧s < 9223372036854775808):=fun h=>hf (fits_iff.2 h)
  replace hf:fits s=false:=by cases hq:fits s;rfl;exact absurd hq hf
  by_cases ha:a < 0
  ·by_cases hb:b < 0
   ·omega
   ·have hnv:n=s+18446744073709551616:=by rw[← hn,← hs,IntKind.wrap_i64];omega
    have hnn:¬ n < 0:=by omega
    have hnd:decide (n < 0)=false:=decide_eq_false hnn
    have hda:decide (a < 0)=true:=decide_eq_true ha
    have hdb:decide (b < 0)=false:=decide_eq_false hb
    have HV:Hid (fitV (a - b)=0):=Lib.hid (by rw[← hs];exact fitV_out hf)
    have HE:Hid (fitE (a - b)=2):=Lib.hid (by rw[← hs];exact fitE_out hf)
    clear hf hnv hs
    go_enter Tryz.func46,Tryz.ntmps46
    go_wp2;go_ret2
    exact⟨by rw[HV.out,HE.out];rfl,rfl⟩
  ·by_cases hb:b < 0
   ·have hnv:n=s - 18446744073709551616:=by rw[← hn,← hs,IntKind.wrap_i64];omega
    have hnn:n < 0:=by omega
    have hnd:decide (n < 0)=true:=decide_eq_true hnn
    have hda:decide (a < 0)=false:=decide_eq_false ha
    have hdb:decide (b < 0)=true:=decide_eq_true hb
    have HV:Hid (fitV (a - b)=0):=Lib.hid (by rw[← hs];exact fitV_out hf)
    have HE:Hid (fitE (a - b)=2):=Lib.hid (by rw[← hs];exact fitE_out hf)
    clear hf hnv hs
    go_enter Tryz.func46,Tryz.ntmps46
    go_wp2;go_ret2
    exact⟨by rw[HV.out,HE.out];rfl,rfl⟩
   ·omega
set_option maxRecDepth 100000 in
set_option maxHeartbeats 4000000 in
theorem Tryz.fixMul (a b:Int) (K:Nat) (hK:K≤40) (w:World) (ha1:-9223372036854775808≤a) (ha2:a < 9223372036854775808) (hb1:-9223372036854775808≤b) (hb2:b < 9223372036854775808):
  Calls Tryz.prog 90 #[.int .i64 a,.int .i64 b,.int .i64 (K:Int)] w fun e w'=>e=.returned (.tuple #[.int .i64 (fitV (nearR (((a*b:Int):Rat) / ((2^K:Nat):Rat)))),.int .i64 (fitE (nearR (((a*b:Int):Rat) / ((2^K:Nat):Rat))))])∧Ext w w':=by
 have hKF:fracB (K:Int)=true:=decide_eq_true (by omega)
 obtain⟨P,hP⟩:∃ P,P=2^K:=⟨_,rfl⟩
 have hP0:0 < P:=by rw[hP];exact Nat.two_pow_pos K
 have hPb:P≤1099511627776:=by rw[hP];exact Nat.le_trans (Nat.pow_le_pow_right (by omega) hK) (by decide)
 have hsh:IntKind.u64.wrap (2^K)=(P:Int):=by rw[show ((2:Int)^K)=((2^K:Nat):Int) by simp,← hP,IntKind.wrap_u64];omega
 rw[← hP]
 rw[← near_mul a b P hP0]
 obtain⟨N,hN⟩:∃ N,N=a.natAbs*b.natAbs:=⟨_,rfl⟩
 rw[← hN]
 obtain⟨A,hA⟩:∃ A,A=a.natAbs:=⟨_,rfl⟩
 obtain⟨C,hC⟩:∃ C,C=b.natAbs:=⟨_,rfl⟩
 have hN2:N=A*C:=by rw[hN,hA,hC]
 have hX:N / 18446744073709551616*B64+N % 18446744073709551616=N:=by rw[B64_eq];omega
 have hhi:N / 18446744073709551616 < 18446744073709551616:=by rw[hN2,Nat.div_lt_iff_lt_mul (by decide)];exact Nat.lt_of_le_of_lt (Nat.mul_le_mul (show A≤9223372036854775808 by omega) (show C≤9223372036854775808 by omega)) (by decide)
 have hmul:∀ W,Calls Tryz.prog 104 #[.int .u64 (A:Int),.int .u64 (C:Int)] W fun e w'=>e=.returned (.tuple #[.int .u64 ((N / 18446744073709551616:Nat):Int),.int .u64 ((N % 18446744073709551616:Nat):Int)])∧W=w':=fun W=>by
  have:=Tryz.mul64N A C (by omega) (by omega) W
  rw[← hN2]at this
  exact this.mono fun _ _ h=>⟨h.1,h.2.symm⟩
 obtain⟨hi,hhi2⟩:∃ hi,hi=N / 18446744073709551616:=⟨_,rfl⟩
 obtain⟨lo,hlo2⟩:∃ lo,lo=N % 18446744073709551616:=⟨_,rfl⟩
 have hlo:lo < 18446744073709551616:=by rw[hlo2];exact Nat.mod_lt _ (by decide)
 rw[← hhi2,← hlo2]at hX
 rw[← hhi2]at hhi
 rw[← hhi2,← hlo2]at hmul
 have hby:∀ (s:Bool) (W:World),Calls Tryz.prog 111 #[.bool s,.agg #[.int .u64 (hi:Int),.int .u64 (lo:Int)],.int .u64 (P:Int)] W fun e w'=>e=.returned (.tuple #[.int .i64 (fitV (sgn s (nearN N P))),.int .i64 (fitE (sgn s (nearN N P)))])∧Ext W w':=fun s W=>by
  have:=Tryz.fixBy s hi lo P W hhi hlo (by omega) (by omega)
  rwa [hX]at this
 have hsa:∀ W,Calls Tryz.prog 110 #[.int .i64 a] W fun e w'=>e=.returned (.int .u64 (A:Int))∧W=w':=fun W=>by rw[hA];exact Tryz.fixSize a W ha1 ha2
 have hsb:∀ W,Calls Tryz.prog 110 #[.int .i64 b] W fun e w'=>e=.returned (.int .u64 (C:Int))∧W=w':=fun W=>by rw[hC];exact Tryz.fixSize b W hb1 hb2
 clear hN hN2 hX hhi2 hlo2 hA hC hhi hlo hP hP0 hPb
 have HBY:=Lib.hid hby
 have HMUL:=Lib.hid hmul
 have HSA:=Lib.hid hsa
 have HSB:=Lib.hid hsb
 clear hby hmul hsa hsb
 by_cases ha:a < 0
 ·by_cases hb:b < 0
  ·have hda:decide (a < 0)=true:=decide_eq_true ha
   have hdb:decide (b < 0)=true:=decide_eq_true hb
   rw[hda,hdb,show (true != true)=false from rfl]
   go_enter Tryz.func90,Tryz.ntmps90
   go_wp2_with fail
   refine(Tryz.fixIsFrac (K:Int) _).mono ?_
   rintro e w1 ⟨rfl,rfl⟩
   rw[hKF]
   go_wp2_with fail
   refine(HSA.out _).mono ?_
   rintro e w2 ⟨rfl,rfl⟩
   go_wp2_with fail
   refine(HSB.out _).mono ?_
   rintro e w3 ⟨rfl,rfl⟩
   go_wp2_with fail
   refine(HMUL.out _).mono ?_
   rintro e w4 ⟨rfl,rfl⟩
   go_wp2_with fail
   refine(HBY.out false _).mono ?_
   rintro e w5 ⟨rfl,hE⟩
   go_wp2;go_ret2
   exact⟨rfl,hE⟩
  ·have hda:decide (a < 0)=true:=decide_eq_true ha
   have hdb:decide (b < 0)=false:=decide_eq_false hb
   rw[hda,hdb,show (true != false)=true from rfl]
   go_enter Tryz.func90,Tryz.ntmps90
   go_wp2_with fail
   refine(Tryz.fixIsFrac (K:Int) _).mono ?_
   rintro e w1 ⟨rfl,rfl⟩
   rw[hKF]
   go_wp2_with fail
   refine(HSA.out _).mono ?_
   rintro e w2 ⟨rfl,rfl⟩
   go_wp2_with fail
   refine(HSB.out _).mono ?_
   rintro e w3 ⟨rfl,rfl⟩
   go_wp2_with fail
   refine(HMUL.out _).mono ?_
   rintro e w4 ⟨rfl,rfl⟩
   go_wp2_with fail
   refine(HBY.out true _).mono ?_
   rintro e w5 ⟨rfl,hE⟩
   go_wp2;go_ret2
   exact⟨rfl,hE⟩
 ·by_cases hb:b < 0
  ·have hda:decide (a < 0)=false:=decide_eq_false ha
   have hdb:decide (b < 0)=true:=decide_eq_true hb
   rw[hda,hdb,show (false != true)=true from rfl]
   go_enter Tryz.func90,Tryz.ntmps90
   go_wp2_with fail
   refine(Tryz.fixIsFrac (K:Int) _).mono ?_
   rintro e w1 ⟨rfl,rfl⟩
   rw[hKF]
   go_wp2_with fail
   refine(HSA.out _).mono ?_
   rintro e w2 ⟨rfl,rfl⟩
   go_wp2_with fail
   refine(HSB.out _).mono ?_
   rintro e w3 ⟨rfl,rfl⟩
   go_wp2_with fail
   refine(HMUL.out _).mono ?_
   rintro e w4 ⟨rfl,rfl⟩
   go_wp2_with fail
   refine(HBY.out true _).mono ?_
   rintro e w5 ⟨rfl,hE⟩
   go_wp2;go_ret2
   exact⟨rfl,hE⟩
  ·have hda:decide (a < 0)=false:=decide_eq_false ha
   have hdb:decide (b < 0)=false:=decide_eq_false hb
   rw[hda,hdb,show (false != false)=false from rfl]
   go_enter Tryz.func90,Tryz.ntmps90
   go_wp2_with fail
   refine(Tryz.fixIsFrac (K:Int) _).mono ?_
   rintro e w1 ⟨rfl,rfl⟩
   rw[hKF]
   go_wp2_with fail
   refine(HSA.out _).mono ?_
   rintro e w2 ⟨rfl,rfl⟩
   go_wp2_with fail
   refine(HSB.out _).mono ?_
   rintro e w3 ⟨rfl,rfl⟩
   go_wp2_with fail
   refine(HMUL.out _).mono ?_
   rintro e w4 ⟨rfl,rfl⟩
   go_wp2_with fail
   refine(HBY.out false _).mono ?_
   rintro e w5 ⟨rfl,hE⟩
   go_wp2;go_ret2
   exact⟨rfl,hE⟩
set_option maxRecDepth 100000 in
set_option maxHeartbeats 4000000 in
theorem Tryz.fixDiv (a b:Int) (K:Nat) (hK:K≤40) (w:World) (ha1:-9223372036854775808≤a) (ha2:a < 9223372036854775808) (hb1:-9223372036854775808≤b) (hb2:b < 9223372036854775808) (hb0:b≠0):
  Calls Tryz.prog 89 #[.int .i64 a,.int .i64 b,.int .i64 (K:Int)] w fun e w'=>e=.returned (.tuple #[.int .i64 (fitV (nearR (((a*((2^K:Nat):Int):Int):Rat) / (b:Rat)))),.int .i64 (fitE (nearR (((a*((2^K:Nat):Int):Int):Rat) / (b:Rat))))])∧Ext w w':=by
 have hKF:fracB (K:Int)=true:=decide_eq_true (by omega)
 obtain⟨P,hP⟩:∃ P,P=2^K:=⟨_,rfl⟩
 have hP0:0 < P:=by rw[hP];exact Nat.two_pow_pos K
 have hPb:P≤1099511627776:=by rw[hP];exact Nat.le_trans (Nat.pow_le_pow_right (by omega) hK) (by decide)
 have hsh:IntKind.u64.wrap (2^K)=(P:Int):=by rw[show ((2:Int)^K)=((2^K:Nat):Int) by simp,← hP,IntKind.wrap_u64];omega
 rw[← hP]
 rw[← near_quot a b P hb0]
 obtain⟨N,hN⟩:∃ N,N=a.natAbs*P:=⟨_,rfl⟩
 rw[← hN]
 obtain⟨A,hA⟩:∃ A,A=a.natAbs:=⟨_,rfl⟩
 obtain⟨C,hC⟩:∃ C,C=b.natAbs:=⟨_,rfl⟩
 rw[← hC]
 have hN2:N=A*P:=by rw[hN,hA]
 have hX:N / 18446744073709551616*B64+N % 18446744073709551616=N:=by rw[B64_eq];omega
 have hhi:N / 18446744073709551616 < 18446744073709551616:=by rw[hN2,Nat.div_lt_iff_lt_mul (by decide)];exact Nat.lt_of_le_of_lt (Nat.mul_le_mul (show A≤9223372036854775808 by omega) (show P≤9223372036854775808 by omega)) (by decide)
 have hmul:∀ W,Calls Tryz.prog 104 #[.int .u64 (A:Int),.int .u64 (P:Int)] W fun e w'=>e=.returned (.tuple #[.int .u64 ((N / 18446744073709551616:Nat):Int),.int .u64 ((N % 18446744073709551616:Nat):Int)])∧W=w':=fun W=>by
  have:=Tryz.mul64N A P (by omega) (by omega) W
  rw[← hN2]at this
  exact this.mono fun _ _ h=>⟨h.1,h.2.symm⟩
 obtain⟨hi,hhi2⟩:∃ hi,hi=N / 18446744073709551616:=⟨_,rfl⟩
 obtain⟨lo,hlo2⟩:∃ lo,lo=N % 18446744073709551616:=⟨_,rfl⟩
 have hlo:lo < 18446744073709551616:=by rw[hlo2];exact Nat.mod_lt _ (by decide)
 rw[← hhi2,← hlo2]at hX
 rw[← hhi2]at hhi
 rw[← hhi2,← hlo2]at hmul
 have hby:∀ (s:Bool) (W:World),Calls Tryz.prog 111 #[.bool s,.agg #[.int .u64 (hi:Int),.int .u64 (lo:Int)],.int .u64 (C:Int)] W fun e w'=>e=.returned (.tuple #[.int .i64 (fitV (sgn s (nearN N C))),.int .i64 (fitE (sgn s (nearN N C)))])∧Ext W w':=fun s W=>by
  have:=Tryz.fixBy s hi lo C W hhi hlo (by omega) (by omega)
  rwa [hX]at this
 have hsa:∀ W,Calls Tryz.prog 110 #[.int .i64 a] W fun e w'=>e=.returned (.int .u64 (A:Int))∧W=w':=fun W=>by rw[hA];exact Tryz.fixSize a W ha1 ha2
 have hsb:∀ W,Calls Tryz.prog 110 #[.int .i64 b] W fun e w'=>e=.returned (.int .u64 (C:Int))∧W=w':=fun W=>by rw[hC];exact Tryz.fixSize b W hb1 hb2
 have hb0I:(b==0)=false:=beq_eq_false_iff_ne.2 hb0
 clear hN hN2 hX hhi2 hlo2 hA hC hhi hlo hP hP0 hPb
 have HBY:=Lib.hid hby
 have HMUL:=Lib.hid hmul
 have HSA:=Lib.hid hsa
 have HSB:=Lib.hid hsb
 clear hby hmul hsa hsb
 by_cases ha:a < 0
 ·by_cases hb:b < 0
  ·have hda:decide (a < 0)=true:=decide_eq_true ha
   have hdb:decide (b < 0)=true:=decide_eq_true hb
   rw[hda,hdb,show (true != true)=false from rfl]
   obtain⟨W0,hW0⟩:∃ W0,W0=w:=⟨_,rfl⟩
   have E0:Ext w W0:=by rw[hW0];exact Ext.refl w
   go_enter Tryz.func89,Tryz.ntmps89
   go_wp2_with fail
   rw[← hW0]
   clear hW0
   refine(Tryz.fixIsFrac (K:Int) _).mono ?_
   rintro e Wc ⟨rfl,rfl⟩
   rw[hKF]
   go_upto_region 5 with (fail)
   have szw1:=Ext.size E0
   refine region_gk [isV (.int .i64 a),isV (.int .u64 (A:Int)),isV (.int .i64 (K:Int)),isV (.int .u64 (P:Int)),isV (.tuple #[.int .u64 (hi:Int),.int .u64 (lo:Int)]),isV (.tuple #[.int .u64 (hi:Int),.int .u64 (lo:Int)]),isV (.int .u64 (hi:Int)),isV (.int .u64 (lo:Int)),isV (.int .u64 (hi:Int)),
     .one fun v _=>v=.int .u64 (lo:Int)] ⟨Good.is _,Good.is _,Good.is _,Good.is _,Good.is _,Good.is _,Good.is _,Good.is _,Good.is _,Good.is _,trivial⟩ (E0.s) (A:=?A1) ?hA1 ?howe1 ?hfin1
   case hA1=>
    intro vs
    simp only[putAll,Act.put,sA,sZ,sS,Nat.zero_add,Nat.reduceAdd]
    exact rfl
   case howe1=>
    clear E0
    intro hf
    refine⟨oP0 0 [] hf rfl,oE 1 [0] hf rfl ?_,oP0 2 [] hf rfl,oP1 3 [2] hf rfl,oE 4 [1,3] hf rfl ?_,oP1 5 [4] hf rfl,oP1 6 [5] hf rfl,oP1 7 [5] hf rfl,oP1 8 [6] hf rfl,oP1 9 [7] hf rfl,trivial⟩
    all_goals intro vs W hS hp hx KO hKO
    all_goals simp only[Act.put,sA,sZ,sS]at hKO
    ·have e0:=isOf hp.1;simp only[e0]at hKO;go_simp
     refine(HSA.out _).mono ?_
     rintro e W1 ⟨rfl,rfl⟩
     exact hKO _ W (.refl W) rfl
    ·have e1:=isOf hp.1;have e3:=isOf hp.2.1;simp only[e1,e3]at hKO;go_simp
     refine(HMUL.out _).mono ?_
     rintro e W1 ⟨rfl,rfl⟩
     exact hKO _ W (.refl W) rfl
   intro vs W1 hS hp
   clear szw1 E0
   obtain⟨E0,sz1⟩:=hS
   obtain⟨h1_0,h1_1,h1_2,h1_3,h1_4,h1_5,h1_6,h1_7,h1_8,h1_9,-⟩:=hp
   simp only[isOf h1_0,isOf h1_1,isOf h1_2,isOf h1_3,isOf h1_4,isOf h1_5,isOf h1_6,isOf h1_7,isOf h1_8,isOf h1_9]
   clear h1_0 h1_1 h1_2 h1_3 h1_4 h1_5 h1_6 h1_7 h1_8 h1_9
   go_wp2_with fail
   refine(HSB.out _).mono ?_
   rintro e Wc ⟨rfl,rfl⟩
   go_wp2_with fail
   refine(HBY.out false _).mono ?_
   rintro e Wc ⟨rfl,hE⟩
   replace E0:Ext w Wc:=(Ext.trans E0 hE)
   clear hE;go_wp2;go_ret2
   exact⟨rfl,E0⟩
  ·have hda:decide (a < 0)=true:=decide_eq_true ha
   have hdb:decide (b < 0)=false:=decide_eq_false hb
   rw[hda,hdb,show (true != false)=true from rfl]
   obtain⟨W0,hW0⟩:∃ W0,W0=w:=⟨_,rfl⟩
   have E0:Ext w W0:=by rw[hW0];exact Ext.refl w
   go_enter Tryz.func89,Tryz.ntmps89
   go_wp2_with fail
   rw[← hW0]
   clear hW0
   refine(Tryz.fixIsFrac (K:Int) _).mono ?_
   rintro e Wc ⟨rfl,rfl⟩
   rw[hKF]
   go_upto_region 5 with (fail)
   have szw2:=Ext.size E0
   refine region_gk [isV (.int .i64 a),isV (.int .u64 (A:Int)),isV (.int .i64 (K:Int)),isV (.int .u64 (P:Int)),isV (.tuple #[.int .u64 (hi:Int),.int .u64 (lo:Int)]),isV (.tuple #[.int .u64 (hi:Int),.int .u64 (lo:Int)]),isV (.int .u64 (hi:Int)),isV (.int .u64 (lo:Int)),isV (.int .u64 (hi:Int)),
     .one fun v _=>v=.int .u64 (lo:Int)] ⟨Good.is _,Good.is _,Good.is _,Good.is _,Good.is _,Good.is _,Good.is _,Good.is _,Good.is _,Good.is _,trivial⟩ (E0.s) (A:=?A2) ?hA2 ?howe2 ?hfin2
   case hA2=>
    intro vs
    simp only[putAll,Act.put,sA,sZ,sS,Nat.zero_add,Nat.reduceAdd]
    exact rfl
   case howe2=>
    clear E0
    intro hf
    refine⟨oP0 0 [] hf rfl,oE 1 [0] hf rfl ?_,oP0 2 [] hf rfl,oP1 3 [2] hf rfl,oE 4 [1,3] hf rfl ?_,oP1 5 [4] hf rfl,oP1 6 [5] hf rfl,oP1 7 [5] hf rfl,oP1 8 [6] hf rfl,oP1 9 [7] hf rfl,trivial⟩
    all_goals intro vs W hS hp hx KO hKO
    all_goals simp only[Act.put,sA,sZ,sS]at hKO
    ·have e0:=isOf hp.1;simp only[e0]at hKO;go_simp
     refine(HSA.out _).mono ?_
     rintro e W1 ⟨rfl,rfl⟩
     exact hKO _ W (.refl W) rfl
    ·have e1:=isOf hp.1;have e3:=isOf hp.2.1;simp only[e1,e3]at hKO;go_simp
     refine(HMUL.out _).mono ?_
     rintro e W1 ⟨rfl,rfl⟩
     exact hKO _ W (.refl W) rfl
   intro vs W2 hS hp
   clear szw2 E0
   obtain⟨E0,sz2⟩:=hS
   obtain⟨h2_0,h2_1,h2_2,h2_3,h2_4,h2_5,h2_6,h2_7,h2_8,h2_9,-⟩:=hp
   simp only[isOf h2_0,isOf h2_1,isOf h2_2,isOf h2_3,isOf h2_4,isOf h2_5,isOf h2_6,isOf h2_7,isOf h2_8,isOf h2_9]
   clear h2_0 h2_1 h2_2 h2_3 h2_4 h2_5 h2_6 h2_7 h2_8 h2_9
   go_wp2_with fail
   refine(HSB.out _).mono ?_
   rintro e Wc ⟨rfl,rfl⟩
   go_wp2_with fail
   refine(HBY.out true _).mono ?_
   rintro e Wc ⟨rfl,hE⟩
   replace E0:Ext w Wc:=(Ext.trans E0 hE)
   clear hE;go_wp2;go_ret2
   exact⟨rfl,E0⟩
 ·by_cases hb:b < 0
  ·have hda:decide (a < 0)=false:=decide_eq_false ha
   have hdb:decide (b < 0)=true:=decide_eq_true hb
   rw[hda,hdb,show (false != true)=true from rfl]
   obtain⟨W0,hW0⟩:∃ W0,W0=w:=⟨_,rfl⟩
   have E0:Ext w W0:=by rw[hW0];exact Ext.refl w
   go_enter Tryz.func89,Tryz.ntmps89
   go_wp2_with fail
   rw[← hW0]
   clear hW0
   refine(Tryz.fixIsFrac (K:Int) _).mono ?_
   rintro e Wc ⟨rfl,rfl⟩
   rw[hKF]
   go_upto_region 5 with (fail)
   have szw3:=Ext.size E0
   refine region_gk [isV (.int .i64 a),isV (.int .u64 (A:Int)),isV (.int .i64 (K:Int)),isV (.int .u64 (P:Int)),isV (.tuple #[.int .u64 (hi:Int),.int .u64 (lo:Int)]),isV (.tuple #[.int .u64 (hi:Int),.int .u64 (lo:Int)]),isV (.int .u64 (hi:Int)),isV (.int .u64 (lo:Int)),isV (.int .u64 (hi:Int)),
     .one fun v _=>v=.int .u64 (lo:Int)] ⟨Good.is _,Good.is _,Good.is _,Good.is _,Good.is _,Good.is _,Good.is _,Good.is _,Good.is _,Good.is _,trivial⟩ (E0.s) (A:=?A3) ?hA3 ?howe3 ?hfin3
   case hA3=>
    intro vs
    simp only[putAll,Act.put,sA,sZ,sS,Nat.zero_add,Nat.reduceAdd]
    exact rfl
   case howe3=>
    clear E0
    intro hf
    refine⟨oP0 0 [] hf rfl,oE 1 [0] hf rfl ?_,oP0 2 [] hf rfl,oP1 3 [2] hf rfl,oE 4 [1,3] hf rfl ?_,oP1 5 [4] hf rfl,oP1 6 [5] hf rfl,oP1 7 [5] hf rfl,oP1 8 [6] hf rfl,oP1 9 [7] hf rfl,trivial⟩
    all_goals intro vs W hS hp hx KO hKO
    all_goals simp only[Act.put,sA,sZ,sS]at hKO
    ·have e0:=isOf hp.1;simp only[e0]at hKO;go_simp
     refine(HSA.out _).mono ?_
     rintro e W1 ⟨rfl,rfl⟩
     exact hKO _ W (.refl W) rfl
    ·have e1:=isOf hp.1;have e3:=isOf hp.2.1;simp only[e1,e3]at hKO;go_simp
     refine(HMUL.out _).mono ?_
     rintro e W1 ⟨rfl,rfl⟩
     exact hKO _ W (.refl W) rfl
   intro vs W3 hS hp
   clear szw3 E0
   obtain⟨E0,sz3⟩:=hS
   obtain⟨h3_0,h3_1,h3_2,h3_3,h3_4,h3_5,h3_6,h3_7,h3_8,h3_9,-⟩:=hp
   simp only[isOf h3_0,isOf h3_1,isOf h3_2,isOf h3_3,isOf h3_4,isOf h3_5,isOf h3_6,isOf h3_7,isOf h3_8,isOf h3_9]
   clear h3_0 h3_1 h3_2 h3_3 h3_4 h3_5 h3_6 h3_7 h3_8 h3_9
   go_wp2_with fail
   refine(HSB.out _).mono ?_
   rintro e Wc ⟨rfl,rfl⟩
   go_wp2_with fail
   refine(HBY.out true _).mono ?_
   rintro e Wc ⟨rfl,hE⟩
   replace E0:Ext w Wc:=(Ext.trans E0 hE)
   clear hE;go_wp2;go_ret2
   exact⟨rfl,E0⟩
  ·have hda:decide (a < 0)=false:=decide_eq_false ha
   have hdb:decide (b < 0)=false:=decide_eq_false hb
   rw[hda,hdb,show (false != false)=false from rfl]
   obtain⟨W0,hW0⟩:∃ W0,W0=w:=⟨_,rfl⟩
   have E0:Ext w W0:=by rw[hW0];exact Ext.refl w
   go_enter Tryz.func89,Tryz.ntmps89
   go_wp2_with fail
   rw[← hW0]
   clear hW0
   refine(Tryz.fixIsFrac (K:Int) _).mono ?_
   rintro e Wc ⟨rfl,rfl⟩
   rw[hKF]
   go_upto_region 5 with (fail)
   have szw4:=Ext.size E0
   refine region_gk [isV (.int .i64 a),isV (.int .u64 (A:Int)),isV (.int .i64 (K:Int)),isV (.int .u64 (P:Int)),isV (.tuple #[.int .u64 (hi:Int),.int .u64 (lo:Int)]),isV (.tuple #[.int .u64 (hi:Int),.int .u64 (lo:Int)]),isV (.int .u64 (hi:Int)),isV (.int .u64 (lo:Int)),isV (.int .u64 (hi:Int)),
     .one fun v _=>v=.int .u64 (lo:Int)] ⟨Good.is _,Good.is _,Good.is _,Good.is _,Good.is _,Good.is _,Good.is _,Good.is _,Good.is _,Good.is _,trivial⟩ (E0.s) (A:=?A4) ?hA4 ?howe4 ?hfin4
   case hA4=>
    intro vs
    simp only[putAll,Act.put,sA,sZ,sS,Nat.zero_add,Nat.reduceAdd]
    exact rfl
   case howe4=>
    clear E0
    intro hf
    refine⟨oP0 0 [] hf rfl,oE 1 [0] hf rfl ?_,oP0 2 [] hf rfl,oP1 3 [2] hf rfl,oE 4 [1,3] hf rfl ?_,oP1 5 [4] hf rfl,oP1 6 [5] hf rfl,oP1 7 [5] hf rfl,oP1 8 [6] hf rfl,oP1 9 [7] hf rfl,trivial⟩
    all_goals intro vs W hS hp hx KO hKO
    all_goals simp only[Act.put,sA,sZ,sS]at hKO
    ·have e0:=isOf hp.1;simp only[e0]at hKO;go_simp
     refine(HSA.out _).mono ?_
     rintro e W1 ⟨rfl,rfl⟩
     exact hKO _ W (.refl W) rfl
    ·have e1:=isOf hp.1;have e3:=isOf hp.2.1;simp only[e1,e3]at hKO;go_simp
     refine(HMUL.out _).mono ?_
     rintro e W1 ⟨rfl,rfl⟩
     exact hKO _ W (.refl W) rfl
   intro vs W4 hS hp
   clear szw4 E0
   obtain⟨E0,sz4⟩:=hS
   obtain⟨h4_0,h4_1,h4_2,h4_3,h4_4,h4_5,h4_6,h4_7,h4_8,h4_9,-⟩:=hp
   simp only[isOf h4_0,isOf h4_1,isOf h4_2,isOf h4_3,isOf h4_4,isOf h4_5,isOf h4_6,isOf h4_7,isOf h4_8,isOf h4_9]
   clear h4_0 h4_1 h4_2 h4_3 h4_4 h4_5 h4_6 h4_7 h4_8 h4_9
   go_wp2_with fail
   refine(HSB.out _).mono ?_
   rintro e Wc ⟨rfl,rfl⟩
   go_wp2_with fail
   refine(HBY.out false _).mono ?_
   rintro e Wc ⟨rfl,hE⟩
   replace E0:Ext w Wc:=(Ext.trans E0 hE)
   clear hE;go_wp2;go_ret2
   exact⟨rfl,E0⟩
set_option maxRecDepth 100000 in
set_option maxHeartbeats 4000000 in
theorem Tryz.fixScale (a b:Int) (d:Nat) (w:World) (ha1:-9223372036854775808≤a) (ha2:a < 9223372036854775808) (hb1:-9223372036854775808≤b) (hb2:b < 9223372036854775808) (hd0:0 < d) (hd:d < 9223372036854775808):
  Calls Tryz.prog 87 #[.int .i64 a,.int .i64 b,.int .i64 (d:Int)] w fun e w'=>e=.returned (.tuple #[.int .i64 (fitV (nearR (((a*b:Int):Rat) / (d:Rat)))),.int .i64 (fitE (nearR (((a*b:Int):Rat) / (d:Rat))))])∧Ext w w':=by
 rw[← near_mul a b d hd0]
 obtain⟨N,hN⟩:∃ N,N=a.natAbs*b.natAbs:=⟨_,rfl⟩
 rw[← hN]
 obtain⟨A,hA⟩:∃ A,A=a.natAbs:=⟨_,rfl⟩
 obtain⟨C,hC⟩:∃ C,C=b.natAbs:=⟨_,rfl⟩
 have hN2:N=A*C:=by rw[hN,hA,hC]
 have hX:N / 18446744073709551616*B64+N % 18446744073709551616=N:=by rw[B64_eq];omega
 have hhi:N / 18446744073709551616 < 18446744073709551616:=by rw[hN2,Nat.div_lt_iff_lt_mul (by decide)];exact Nat.lt_of_le_of_lt (Nat.mul_le_mul (show A≤9223372036854775808 by omega) (show C≤9223372036854775808 by omega)) (by decide)
 have hmul:∀ W,Calls Tryz.prog 104 #[.int .u64 (A:Int),.int .u64 (C:Int)] W fun e w'=>e=.returned (.tuple #[.int .u64 ((N / 18446744073709551616:Nat):Int),.int .u64 ((N % 18446744073709551616:Nat):Int)])∧W=w':=fun W=>by
  have:=Tryz.mul64N A C (by omega) (by omega) W
  rw[← hN2]at this
  exact this.mono fun _ _ h=>⟨h.1,h.2.symm⟩
 obtain⟨hi,hhi2⟩:∃ hi,hi=N / 18446744073709551616:=⟨_,rfl⟩
 obtain⟨lo,hlo2⟩:∃ lo,lo=N % 18446744073709551616:=⟨_,rfl⟩
 have hlo:lo < 18446744073709551616:=by rw[hlo2];exact Nat.mod_lt _ (by decide)
 rw[← hhi2,← hlo2]at hX
 rw[← hhi2]at hhi
 rw[← hhi2,← hlo2]at hmul
 have hby:∀ (s:Bool) (W:World),Calls Tryz.prog 111 #[.bool s,.agg #[.int .u64 (hi:Int),.int .u64 (lo:Int)],.int .u64 (d:Int)] W fun e w'=>e=.returned (.tuple #[.int .i64 (fitV (sgn s (nearN N d))),.int .i64 (fitE (sgn s (nearN N d)))])∧Ext W w':=fun s W=>by
  have:=Tryz.fixBy s hi lo d W hhi hlo (by omega) (by omega)
  rwa [hX]at this
 have hsa:∀ W,Calls Tryz.prog 110 #[.int .i64 a] W fun e w'=>e=.returned (.int .u64 (A:Int))∧W=w':=fun W=>by rw[hA];exact Tryz.fixSize a W ha1 ha2
 have hsb:∀ W,Calls Tryz.prog 110 #[.int .i64 b] W fun e w'=>e=.returned (.int .u64 (C:Int))∧W=w':=fun W=>by rw[hC];exact Tryz.fixSize b W hb1 hb2
 have hd1:¬ ((d:Int) < 1):=by omega
 have hd1d:decide ((d:Int) < 1)=false:=decide_eq_false hd1
 have hwd:IntKind.u64.wrap (d:Int)=(d:Int):=by rw[IntKind.wrap_u64];omega
 clear hN hN2 hX hhi2 hlo2 hA hC hhi hlo
 have HBY:=Lib.hid hby
 have HMUL:=Lib.hid hmul
 have HSA:=Lib.hid hsa
 have HSB:=Lib.hid hsb
 clear hby hmul hsa hsb
 by_cases ha:a < 0
 ·by_cases hb:b < 0
  ·have hda:decide (a < 0)=true:=decide_eq_true ha
   have hdb:decide (b < 0)=true:=decide_eq_true hb
   rw[hda,hdb,show (true != true)=false from rfl]
   go_enter Tryz.func87,Tryz.ntmps87
   go_wp2_with fail
   refine(HSA.out _).mono ?_
   rintro e w2 ⟨rfl,rfl⟩
   go_wp2_with fail
   refine(HSB.out _).mono ?_
   rintro e w3 ⟨rfl,rfl⟩
   go_wp2_with fail
   refine(HMUL.out _).mono ?_
   rintro e w4 ⟨rfl,rfl⟩
   go_wp2_with fail
   refine(HBY.out false _).mono ?_
   rintro e w5 ⟨rfl,hE⟩
   go_wp2;go_ret2
   exact⟨rfl,hE⟩
  ·have hda:decide (a < 0)=true:=decide_eq_true ha
   have hdb:decide (b < 0)=false:=decide_eq_false hb
   rw[hda,hdb,show (true != false)=true from rfl]
   go_enter Tryz.func87,Tryz.ntmps87
   go_wp2_with fail
   refine(HSA.out _).mono ?_
   rintro e w2 ⟨rfl,rfl⟩
   go_wp2_with fail
   refine(HSB.out _).mono ?_
   rintro e w3 ⟨rfl,rfl⟩
   go_wp2_with fail
   refine(HMUL.out _).mono ?_
   rintro e w4 ⟨rfl,rfl⟩
   go_wp2_with fail
   refine(HBY.out true _).mono ?_
   rintro e w5 ⟨rfl,hE⟩
   go_wp2;go_ret2
   exact⟨rfl,hE⟩
 ·by_cases hb:b < 0
  ·have hda:decide (a < 0)=false:=decide_eq_false ha
   have hdb:decide (b < 0)=true:=decide_eq_true hb
   rw[hda,hdb,show (false != true)=true from rfl]
   go_enter Tryz.func87,Tryz.ntmps87
   go_wp2_with fail
   refine(HSA.out _).mono ?_
   rintro e w2 ⟨rfl,rfl⟩
   go_wp2_with fail
   refine(HSB.out _).mono ?_
   rintro e w3 ⟨rfl,rfl⟩
   go_wp2_with fail
   refine(HMUL.out _).mono ?_
   rintro e w4 ⟨rfl,rfl⟩
   go_wp2_with fail
   refine(HBY.out true _).mono ?_
   rintro e w5 ⟨rfl,hE⟩
   go_wp2;go_ret2
   exact⟨rfl,hE⟩
  ·have hda:decide (a < 0)=false:=decide_eq_false ha
   have hdb:decide (b < 0)=false:=decide_eq_false hb
   rw[hda,hdb,show (false != false)=false from rfl]
   go_enter Tryz.func87,Tryz.ntmps87
   go_wp2_with fail
   refine(HSA.out _).mono ?_
   rintro e w2 ⟨rfl,rfl⟩
   go_wp2_with fail
   refine(HSB.out _).mono ?_
   rintro e w3 ⟨rfl,rfl⟩
   go_wp2_with fail
   refine(HMUL.out _).mono ?_
   rintro e w4 ⟨rfl,rfl⟩
   go_wp2_with fail
   refine(HBY.out false _).mono ?_
   rintro e w5 ⟨rfl,hE⟩
   go_wp2;go_ret2
   exact⟨rfl,hE⟩
end Go.Rt
namespace Go.Rt
open Go.RowKit Go.Proofs
set_option maxHeartbeats 400000 in
theorem Tryz.refSmall {v:Value} {N:Nat} {w:World} (h:Nw w v N):
  Calls Tryz.prog 58 #[v] w fun e w'=>e=.returned (.tuple #[.int .u64 ((smallN N:Nat):Int),.bool (smallB N)])∧w=w':=by
 obtain⟨xs,⟨a,b,o,cap,rfl,hs,hl⟩,hn,he⟩:=h
 have hlen:=fun L=>len_le_iff (by rw[B64_eq];omega) hl hn L
 match xs,hs,hl,hn,he,hlen with
 | [],hs,hl,hn,he,hlen=>
  have H1:Hid (smallN N=0):=Lib.hid (by rw[← he];unfold smallN;split <;> rfl)
  have H2:Hid (smallB N=true):=Lib.hid (by rw[← he];exact decide_eq_true B64_pos)
  clear hs hl hn he hlen
  go_enter Tryz.func58,Tryz.ntmps58
  go_wp2;go_ret2
  exact⟨by rw[H1.out,H2.out];rfl,rfl⟩
 | [x],hs,hl,hn,he,hlen=>
  obtain rfl:=hs.addr (by simp)
  have hc:=hs.cell (i:=0) (by simp)
  have hxb:=lg_lt hl 0
  have hx:ev B64 [x]=lg [x] 0:=ev_single _ _
  have H1:Hid (smallN N=lg [x] 0):=Lib.hid (by rw[← he,hx];unfold smallN;rw[if_pos hxb])
  have H2:Hid (smallB N=true):=Lib.hid (by rw[← he,hx];exact decide_eq_true hxb)
  generalize lg [x] 0=y at *
  clear hs hl hn he hlen hx hxb
  simp only[Nat.add_zero]at hc
  go_enter Tryz.func58,Tryz.ntmps58
  go_wp2;go_ret2
  exact⟨by rw[H1.out,H2.out];rfl,rfl⟩
 | x :: y :: r,hs,hl,hn,he,hlen=>
  have hbig:¬ N < B64:=fun hlt=>by
   have:=(hlen 1).2 (by rw[he,Nat.pow_one];exact hlt)
   simp at this
  have H1:Hid (smallN N=0):=Lib.hid (if_neg hbig)
  have H2:Hid (smallB N=false):=Lib.hid (decide_eq_false hbig)
  have l1:(((x :: y :: r).length:Int)==0)=false:=beq_eq_false_iff_ne.2 (by simp;omega)
  have l2:(1:Int) < ((x :: y :: r).length:Int):=by simp;omega
  have l3:1 < (x :: y :: r).length:=by simp
  generalize (x :: y :: r).length=n at *
  clear hs hl hn he hlen hbig
  go_enter Tryz.func58,Tryz.ntmps58
  go_wp2;go_ret2
  exact⟨by rw[H1.out,H2.out];rfl,rfl⟩
set_option maxRecDepth 100000 in
set_option maxHeartbeats 4000000 in
theorem Tryz.zedInt {v:Value} {z:Int} {w:World} (h:Zw w v z):
  Calls Tryz.prog 113 #[v] w fun e w'=>e=.returned (.tuple #[.int .i64 (fitV z),.bool (fits z)])∧Ext w w':=by
 have hz:=h
 obtain⟨b,a,n,c,rfl,hb,hn0⟩:=h
 replace hb:=hb.out;clear hn0
 obtain⟨M,hM⟩:∃ M,M=z.natAbs:=⟨_,rfl⟩
 cases b
 ·have hbz:¬ z < 0:=of_decide_eq_false hb.symm
  obtain hc | hc | hc | hc | hc:18446744073709551616≤M∨9223372036854775808 < M∧M < 18446744073709551616∨M=9223372036854775808∨0 < M∧M < 9223372036854775808∨M=0:=by omega
  ·have HSN:Hid (smallN z.natAbs=0):=Lib.hid (by rw[← hM];unfold smallN;rw[B64_eq];exact if_neg (by omega))
   have HSB:Hid (smallB z.natAbs=false):=Lib.hid (by rw[← hM];unfold smallB;rw[B64_eq];exact decide_eq_false (by omega))
   have hfit:fits z=false:=by cases hq:fits z;rfl;have:=fits_iff.1 hq;omega
   have HV:Hid (fitV z=0):=Lib.hid (fitV_out hfit)
   have HE:=Lib.hid hfit
   clear hM hfit hb hc
   obtain⟨W0,hW0,E0,p1⟩:=boxed1 w 43 #[.bool false,.slice a n c]
   replace p1:=p1.b2
   replace hz:Zw W0 (.agg #[.bool false,.slice a n c]) z:=hz.ext E0
   go_enter Tryz.func113,Tryz.ntmps113
   obtain⟨k1a,k1b⟩:=p1.c2
   go_wp2_with fail
   rw[← hW0]
   clear hW0;clear k1a k1b
   refine(Tryz.natSmall hz.num).mono ?_
   rintro e Wc ⟨rfl,rfl⟩
   rw[HSN.out,HSB.out]
   obtain⟨k1a,k1b⟩:=p1.c2
   go_wp2;go_ret2
   exact⟨by rw[HV.out,HE.out];rfl,E0⟩
  ·have HSN:Hid (smallN z.natAbs=M):=Lib.hid (by rw[← hM];unfold smallN;rw[B64_eq];exact if_pos (by omega))
   have HSB:Hid (smallB z.natAbs=true):=Lib.hid (by rw[← hM];unfold smallB;rw[B64_eq];exact decide_eq_true (by omega))
   have hfit:fits z=false:=by cases hq:fits z;rfl;have:=fits_iff.1 hq;omega
   have HV:Hid (fitV z=0):=Lib.hid (fitV_out hfit)
   have HE:=Lib.hid hfit
   obtain⟨k,hk⟩:∃ k,IntKind.i64.wrap (M:Int)=k:=⟨_,rfl⟩
   have hkv:k=(M:Int) - 18446744073709551616:=by rw[← hk,IntKind.wrap_i64];omega
   have hx0:(k==0)=false:=beq_eq_false_iff_ne.2 (by omega)
   have hx1:k≠0:=by omega
   have hx2:k < 0:=by omega
   have hx3:decide (k < 0)=true:=decide_eq_true hx2
   clear hkv;clear hM hfit hb hc
   obtain⟨W0,hW0,E0,p1⟩:=boxed1 w 43 #[.bool false,.slice a n c]
   replace p1:=p1.b2
   replace hz:Zw W0 (.agg #[.bool false,.slice a n c]) z:=hz.ext E0
   go_enter Tryz.func113,Tryz.ntmps113
   obtain⟨k1a,k1b⟩:=p1.c2
   go_wp2_with fail
   rw[← hW0]
   clear hW0;clear k1a k1b
   refine(Tryz.natSmall hz.num).mono ?_
   rintro e Wc ⟨rfl,rfl⟩
   rw[HSN.out,HSB.out]
   obtain⟨k1a,k1b⟩:=p1.c2
   go_wp2;go_ret2
   exact⟨by rw[HV.out,HE.out];rfl,E0⟩
  ·have HSN:Hid (smallN z.natAbs=M):=Lib.hid (by rw[← hM];unfold smallN;rw[B64_eq];exact if_pos (by omega))
   have HSB:Hid (smallB z.natAbs=true):=Lib.hid (by rw[← hM];unfold smallB;rw[B64_eq];exact decide_eq_true (by omega))
   have hfit:fits z=false:=by cases hq:fits z;rfl;have:=fits_iff.1 hq;omega
   have HV:Hid (fitV z=0):=Lib.hid (fitV_out hfit)
   have HE:=Lib.hid hfit
   obtain⟨k,hk⟩:∃ k,IntKind.i64.wrap (M:Int)=k:=⟨_,rfl⟩
   have hkv:k = -9223372036854775808:=by rw[← hk,IntKind.wrap_i64];omega
   have hx0:(k==0)=false:=beq_eq_false_iff_ne.2 (by omega)
   have hx1:k≠0:=by omega
   have hx2:k < 0:=by omega
   have hx3:decide (k < 0)=true:=decide_eq_true hx2
   clear hkv;clear hM hfit hb hc
   obtain⟨W0,hW0,E0,p1⟩:=boxed1 w 43 #[.bool false,.slice a n c]
   replace p1:=p1.b2
   replace hz:Zw W0 (.agg #[.bool false,.slice a n c]) z:=hz.ext E0
   go_enter Tryz.func113,Tryz.ntmps113
   obtain⟨k1a,k1b⟩:=p1.c2
   go_wp2_with fail
   rw[← hW0]
   clear hW0;clear k1a k1b
   refine(Tryz.natSmall hz.num).mono ?_
   rintro e Wc ⟨rfl,rfl⟩
   rw[HSN.out,HSB.out]
   obtain⟨k1a,k1b⟩:=p1.c2
   go_wp2;go_ret2
   exact⟨by rw[HV.out,HE.out];rfl,E0⟩
  ·have HSN:Hid (smallN z.natAbs=M):=Lib.hid (by rw[← hM];unfold smallN;rw[B64_eq];exact if_pos (by omega))
   have HSB:Hid (smallB z.natAbs=true):=Lib.hid (by rw[← hM];unfold smallB;rw[B64_eq];exact decide_eq_true (by omega))
   have hfit:fits z=true:=by exact fits_iff.2 (by omega)
   have HV:Hid (fitV z=(M:Int)):=Lib.hid (by rw[fitV_in hfit];omega)
   have HE:=Lib.hid hfit
   obtain⟨k,hk⟩:∃ k,IntKind.i64.wrap (M:Int)=k:=⟨_,rfl⟩
   have hkv:k=(M:Int):=by rw[← hk,IntKind.wrap_i64];omega
   have hx0:(k==0)=false:=beq_eq_false_iff_ne.2 (by omega)
   have hx1:k≠0:=by omega
   have hx2:¬ k < 0:=by omega
   have hx3:decide (k < 0)=false:=decide_eq_false hx2
   replace HV:Hid (fitV z=k):=Lib.hid (HV.out.trans (by omega))
   clear hkv;clear hM hfit hb hc
   obtain⟨W0,hW0,E0,p1⟩:=boxed1 w 43 #[.bool false,.slice a n c]
   replace p1:=p1.b2
   replace hz:Zw W0 (.agg #[.bool false,.slice a n c]) z:=hz.ext E0
   go_enter Tryz.func113,Tryz.ntmps113
   obtain⟨k1a,k1b⟩:=p1.c2
   go_wp2_with fail
   rw[← hW0]
   clear hW0;clear k1a k1b
   refine(Tryz.natSmall hz.num).mono ?_
   rintro e Wc ⟨rfl,rfl⟩
   rw[HSN.out,HSB.out]
   obtain⟨k1a,k1b⟩:=p1.c2
   go_wp2;go_ret2
   exact⟨by rw[HV.out,HE.out];rfl,E0⟩
  ·have HSN:Hid (smallN z.natAbs=M):=Lib.hid (by rw[← hM];unfold smallN;rw[B64_eq];exact if_pos (by omega))
   have HSB:Hid (smallB z.natAbs=true):=Lib.hid (by rw[← hM];unfold smallB;rw[B64_eq];exact decide_eq_true (by omega))
   have hfit:fits z=true:=by exact fits_iff.2 (by omega)
   have HV:Hid (fitV z=0):=Lib.hid (by rw[fitV_in hfit];omega)
   have HE:=Lib.hid hfit
   have hM0:M=0:=by omega
   subst hM0
   clear hM hfit hb hc
   obtain⟨W0,hW0,E0,p1⟩:=boxed1 w 43 #[.bool false,.slice a n c]
   replace p1:=p1.b2
   replace hz:Zw W0 (.agg #[.bool false,.slice a n c]) z:=hz.ext E0
   go_enter Tryz.func113,Tryz.ntmps113
   obtain⟨k1a,k1b⟩:=p1.c2
   go_wp2_with fail
   rw[← hW0]
   clear hW0;clear k1a k1b
   refine(Tryz.natSmall hz.num).mono ?_
   rintro e Wc ⟨rfl,rfl⟩
   rw[HSN.out,HSB.out]
   obtain⟨k1a,k1b⟩:=p1.c2
   go_wp2;go_ret2
   exact⟨by rw[HV.out,HE.out];rfl,E0⟩
 ·have hbz:z < 0:=of_decide_eq_true hb.symm
  obtain hc | hc | hc | hc:18446744073709551616≤M∨9223372036854775808 < M∧M < 18446744073709551616∨M=9223372036854775808∨0 < M∧M < 9223372036854775808:=by omega
  ·have HSN:Hid (smallN z.natAbs=0):=Lib.hid (by rw[← hM];unfold smallN;rw[B64_eq];exact if_neg (by omega))
   have HSB:Hid (smallB z.natAbs=false):=Lib.hid (by rw[← hM];unfold smallB;rw[B64_eq];exact decide_eq_false (by omega))
   have hfit:fits z=false:=by cases hq:fits z;rfl;have:=fits_iff.1 hq;omega
   have HV:Hid (fitV z=0):=Lib.hid (fitV_out hfit)
   have HE:=Lib.hid hfit
   clear hM hfit hb hc
   obtain⟨W0,hW0,E0,p1⟩:=boxed1 w 43 #[.bool true,.slice a n c]
   replace p1:=p1.b2
   replace hz:Zw W0 (.agg #[.bool true,.slice a n c]) z:=hz.ext E0
   go_enter Tryz.func113,Tryz.ntmps113
   obtain⟨k1a,k1b⟩:=p1.c2
   go_wp2_with fail
   rw[← hW0]
   clear hW0;clear k1a k1b
   refine(Tryz.natSmall hz.num).mono ?_
   rintro e Wc ⟨rfl,rfl⟩
   rw[HSN.out,HSB.out]
   obtain⟨k1a,k1b⟩:=p1.c2
   go_wp2;go_ret2
   exact⟨by rw[HV.out,HE.out];rfl,E0⟩
  ·have HSN:Hid (smallN z.natAbs=M):=Lib.hid (by rw[← hM];unfold smallN;rw[B64_eq];exact if_pos (by omega))
   have HSB:Hid (smallB z.natAbs=true):=Lib.hid (by rw[← hM];unfold smallB;rw[B64_eq];exact decide_eq_true (by omega))
   have hfit:fits z=false:=by cases hq:fits z;rfl;have:=fits_iff.1 hq;omega
   have HV:Hid (fitV z=0):=Lib.hid (fitV_out hfit)
   have HE:=Lib.hid hfit
   obtain⟨k,hk⟩:∃ k,IntKind.i64.wrap (M:Int)=k:=⟨_,rfl⟩
   have hkv:k=(M:Int) - 18446744073709551616:=by rw[← hk,IntKind.wrap_i64];omega
   obtain⟨m,hm⟩:∃ m,IntKind.i64.wrap (-k)=m:=⟨_,rfl⟩
   have hmv:m=18446744073709551616 - (M:Int):=by rw[← hm,hkv,IntKind.wrap_i64];omega
   have hx0:(m==0)=false:=beq_eq_false_iff_ne.2 (by omega)
   have hx1:m≠0:=by omega
   have hx2:¬ m < 0:=by omega
   have hx3:decide (m < 0)=false:=decide_eq_false hx2
   clear hkv hmv;clear hM hfit hb hc
   obtain⟨W0,hW0,E0,p1⟩:=boxed1 w 43 #[.bool true,.slice a n c]
   replace p1:=p1.b2
   replace hz:Zw W0 (.agg #[.bool true,.slice a n c]) z:=hz.ext E0
   go_enter Tryz.func113,Tryz.ntmps113
   obtain⟨k1a,k1b⟩:=p1.c2
   go_wp2_with fail
   rw[← hW0]
   clear hW0;clear k1a k1b
   refine(Tryz.natSmall hz.num).mono ?_
   rintro e Wc ⟨rfl,rfl⟩
   rw[HSN.out,HSB.out]
   obtain⟨k1a,k1b⟩:=p1.c2
   go_wp2;go_ret2
   exact⟨by rw[HV.out,HE.out];rfl,E0⟩
  ·have HSN:Hid (smallN z.natAbs=M):=Lib.hid (by rw[← hM];unfold smallN;rw[B64_eq];exact if_pos (by omega))
   have HSB:Hid (smallB z.natAbs=true):=Lib.hid (by rw[← hM];unfold smallB;rw[B64_eq];exact decide_eq_true (by omega))
   have hfit:fits z=true:=by exact fits_iff.2 (by omega)
   have HV:Hid (fitV z = -9223372036854775808):=Lib.hid (by rw[fitV_in hfit];omega)
   have HE:=Lib.hid hfit
   obtain⟨k,hk⟩:∃ k,IntKind.i64.wrap (M:Int)=k:=⟨_,rfl⟩
   have hkv:k = -9223372036854775808:=by rw[← hk,IntKind.wrap_i64];omega
   obtain⟨m,hm⟩:∃ m,IntKind.i64.wrap (-k)=m:=⟨_,rfl⟩
   have hmv:m = -9223372036854775808:=by rw[← hm,hkv,IntKind.wrap_i64];omega
   have hx0:(m==0)=false:=beq_eq_false_iff_ne.2 (by omega)
   have hx1:m≠0:=by omega
   have hx2:m < 0:=by omega
   have hx3:decide (m < 0)=true:=decide_eq_true hx2
   replace HV:Hid (fitV z=m):=Lib.hid (HV.out.trans (by omega))
   clear hkv hmv;clear hM hfit hb hc
   obtain⟨W0,hW0,E0,p1⟩:=boxed1 w 43 #[.bool true,.slice a n c]
   replace p1:=p1.b2
   replace hz:Zw W0 (.agg #[.bool true,.slice a n c]) z:=hz.ext E0
   go_enter Tryz.func113,Tryz.ntmps113
   obtain⟨k1a,k1b⟩:=p1.c2
   go_wp2_with fail
   rw[← hW0]
   clear hW0;clear k1a k1b
   refine(Tryz.natSmall hz.num).mono ?_
   rintro e Wc ⟨rfl,rfl⟩
   rw[HSN.out,HSB.out]
   obtain⟨k1a,k1b⟩:=p1.c2
   go_wp2;go_ret2
   exact⟨by rw[HV.out,HE.out];rfl,E0⟩
  ·have HSN:Hid (smallN z.natAbs=M):=Lib.hid (by rw[← hM];unfold smallN;rw[B64_eq];exact if_pos (by omega))
   have HSB:Hid (smallB z.natAbs=true):=Lib.hid (by rw[← hM];unfold smallB;rw[B64_eq];exact decide_eq_true (by omega))
   have hfit:fits z=true:=by exact fits_iff.2 (by omega)
   have HV:Hid (fitV z = -(M:Int)):=Lib.hid (by rw[fitV_in hfit];omega)
   have HE:=Lib.hid hfit
   obtain⟨k,hk⟩:∃ k,IntKind.i64.wrap (M:Int)=k:=⟨_,rfl⟩
   have hkv:k=(M:Int):=by rw[← hk,IntKind.wrap_i64];omega
   obtain⟨m,hm⟩:∃ m,IntKind.i64.wrap (-k)=m:=⟨_,rfl⟩
   have hmv:m = -(M:Int):=by rw[← hm,hkv,IntKind.wrap_i64];omega
   have hx0:(m==0)=false:=beq_eq_false_iff_ne.2 (by omega)
   have hx1:m≠0:=by omega
   have hx2:m < 0:=by omega
   have hx3:decide (m < 0)=true:=decide_eq_true hx2
   replace HV:Hid (fitV z=m):=Lib.hid (HV.out.trans (by omega))
   clear hkv hmv;clear hM hfit hb hc
   obtain⟨W0,hW0,E0,p1⟩:=boxed1 w 43 #[.bool true,.slice a n c]
   replace p1:=p1.b2
   replace hz:Zw W0 (.agg #[.bool true,.slice a n c]) z:=hz.ext E0
   go_enter Tryz.func113,Tryz.ntmps113
   obtain⟨k1a,k1b⟩:=p1.c2
   go_wp2_with fail
   rw[← hW0]
   clear hW0;clear k1a k1b
   refine(Tryz.natSmall hz.num).mono ?_
   rintro e Wc ⟨rfl,rfl⟩
   rw[HSN.out,HSB.out]
   obtain⟨k1a,k1b⟩:=p1.c2
   go_wp2;go_ret2
   exact⟨by rw[HV.out,HE.out];rfl,E0⟩
set_option maxRecDepth 100000 in
set_option maxHeartbeats 4000000 in
theorem Tryz.refZInt {v:Value} {z:Int} {w:World} (h:Zw w v z):
  Calls Tryz.prog 25 #[v] w fun e w'=>e=.returned (.tuple #[.int .i64 (fitV z),.bool (fits z)])∧Ext w w':=by
 have hz:=h
 obtain⟨b,a,n,c,rfl,hb,hn0⟩:=h
 replace hb:=hb.out;clear hn0
 obtain⟨M,hM⟩:∃ M,M=z.natAbs:=⟨_,rfl⟩
 cases b
 ·have hbz:¬ z < 0:=of_decide_eq_false hb.symm
  obtain hc | hc | hc | hc:18446744073709551616≤M∨9223372036854775808 < M∧M < 18446744073709551616∨M=9223372036854775808∨M < 9223372036854775808:=by omega
  ·have HSN:Hid (smallN z.natAbs=0):=Lib.hid (by rw[← hM];unfold smallN;rw[B64_eq];exact if_neg (by omega))
   have HSB:Hid (smallB z.natAbs=false):=Lib.hid (by rw[← hM];unfold smallB;rw[B64_eq];exact decide_eq_false (by omega))
   have hfit:fits z=false:=by cases hq:fits z;rfl;have:=fits_iff.1 hq;omega
   have HV:Hid (fitV z=0):=Lib.hid (fitV_out hfit)
   have HE:=Lib.hid hfit
   clear hM hfit hb hc
   obtain⟨W0,hW0,E0,p1⟩:=boxed1 w 43 #[.bool false,.slice a n c]
   replace p1:=p1.b2
   replace hz:Zw W0 (.agg #[.bool false,.slice a n c]) z:=hz.ext E0
   go_enter Tryz.func25,Tryz.ntmps25
   obtain⟨k1a,k1b⟩:=p1.c2
   go_wp2_with fail
   rw[← hW0]
   clear hW0;clear k1a k1b
   refine(Tryz.refSmall hz.num).mono ?_
   rintro e Wc ⟨rfl,rfl⟩
   rw[HSN.out,HSB.out]
   obtain⟨k1a,k1b⟩:=p1.c2
   go_wp2;go_ret2
   exact⟨by rw[HV.out,HE.out];rfl,E0⟩
  ·have HSN:Hid (smallN z.natAbs=M):=Lib.hid (by rw[← hM];unfold smallN;rw[B64_eq];exact if_pos (by omega))
   have HSB:Hid (smallB z.natAbs=true):=Lib.hid (by rw[← hM];unfold smallB;rw[B64_eq];exact decide_eq_true (by omega))
   have hfit:fits z=false:=by cases hq:fits z;rfl;have:=fits_iff.1 hq;omega
   have HV:Hid (fitV z=0):=Lib.hid (fitV_out hfit)
   have HE:=Lib.hid hfit
   have g1:(9223372036854775807:Int) < (M:Int):=by omega
   have g1n:9223372036854775807 < M:=by omega
   have g2:(9223372036854775808:Int) < (M:Int):=by omega
   have g2n:9223372036854775808 < M:=by omega
   have g1d:=decide_eq_true g1
   have g2d:=decide_eq_true g2
   have g3:((M:Int)==9223372036854775808)=false:=beq_eq_false_iff_ne.2 (by omega)
   clear hM hfit hb hc
   obtain⟨W0,hW0,E0,p1⟩:=boxed1 w 43 #[.bool false,.slice a n c]
   replace p1:=p1.b2
   replace hz:Zw W0 (.agg #[.bool false,.slice a n c]) z:=hz.ext E0
   go_enter Tryz.func25,Tryz.ntmps25
   obtain⟨k1a,k1b⟩:=p1.c2
   go_wp2_with fail
   rw[← hW0]
   clear hW0;clear k1a k1b
   refine(Tryz.refSmall hz.num).mono ?_
   rintro e Wc ⟨rfl,rfl⟩
   rw[HSN.out,HSB.out]
   obtain⟨k1a,k1b⟩:=p1.c2
   go_wp2;go_ret2
   exact⟨by rw[HV.out,HE.out];rfl,E0⟩
  ·have HSN:Hid (smallN z.natAbs=M):=Lib.hid (by rw[← hM];unfold smallN;rw[B64_eq];exact if_pos (by omega))
   have HSB:Hid (smallB z.natAbs=true):=Lib.hid (by rw[← hM];unfold smallB;rw[B64_eq];exact decide_eq_true (by omega))
   have hfit:fits z=false:=by cases hq:fits z;rfl;have:=fits_iff.1 hq;omega
   have HV:Hid (fitV z=0):=Lib.hid (fitV_out hfit)
   have HE:=Lib.hid hfit
   have g1:(9223372036854775807:Int) < (M:Int):=by omega
   have g1n:9223372036854775807 < M:=by omega
   have g2:¬ (9223372036854775808:Int) < (M:Int):=by omega
   have g2n:¬ 9223372036854775808 < M:=by omega
   have g1d:=decide_eq_true g1
   have g2d:=decide_eq_false g2
   have g3:((M:Int)==9223372036854775808)=true:=beq_iff_eq.2 (by omega)
   clear hM hfit hb hc
   obtain⟨W0,hW0,E0,p1⟩:=boxed1 w 43 #[.bool false,.slice a n c]
   replace p1:=p1.b2
   replace hz:Zw W0 (.agg #[.bool false,.slice a n c]) z:=hz.ext E0
   go_enter Tryz.func25,Tryz.ntmps25
   obtain⟨k1a,k1b⟩:=p1.c2
   go_wp2_with fail
   rw[← hW0]
   clear hW0;clear k1a k1b
   refine(Tryz.refSmall hz.num).mono ?_
   rintro e Wc ⟨rfl,rfl⟩
   rw[HSN.out,HSB.out]
   obtain⟨k1a,k1b⟩:=p1.c2
   go_wp2;go_ret2
   exact⟨by rw[HV.out,HE.out];rfl,E0⟩
  ·have HSN:Hid (smallN z.natAbs=M):=Lib.hid (by rw[← hM];unfold smallN;rw[B64_eq];exact if_pos (by omega))
   have HSB:Hid (smallB z.natAbs=true):=Lib.hid (by rw[← hM];unfold smallB;rw[B64_eq];exact decide_eq_true (by omega))
   have hfit:fits z=true:=by exact fits_iff.2 (by omega)
   have HV:Hid (fitV z=(M:Int)):=Lib.hid (by rw[fitV_in hfit];omega)
   have HE:=Lib.hid hfit
   have g1:¬ (9223372036854775807:Int) < (M:Int):=by omega
   have g1n:¬ 9223372036854775807 < M:=by omega
   have g2:¬ (9223372036854775808:Int) < (M:Int):=by omega
   have g2n:¬ 9223372036854775808 < M:=by omega
   have g1d:=decide_eq_false g1
   have g2d:=decide_eq_false g2
   have g3:((M:Int)==9223372036854775808)=false:=beq_eq_false_iff_ne.2 (by omega)
   have g4:IntKind.i64.wrap (M:Int)=(M:Int):=by rw[IntKind.wrap_i64];omega
   clear hM hfit hb hc
   obtain⟨W0,hW0,E0,p1⟩:=boxed1 w 43 #[.bool false,.slice a n c]
   replace p1:=p1.b2
   replace hz:Zw W0 (.agg #[.bool false,.slice a n c]) z:=hz.ext E0
   go_enter Tryz.func25,Tryz.ntmps25
   obtain⟨k1a,k1b⟩:=p1.c2
   go_wp2_with fail
   rw[← hW0]
   clear hW0;clear k1a k1b
   refine(Tryz.refSmall hz.num).mono ?_
   rintro e Wc ⟨rfl,rfl⟩
   rw[HSN.out,HSB.out]
   obtain⟨k1a,k1b⟩:=p1.c2
   go_wp2;go_ret2
   exact⟨by rw[HV.out,HE.out];rfl,E0⟩
 ·have hbz:z < 0:=of_decide_eq_true hb.symm
  obtain hc | hc | hc | hc:18446744073709551616≤M∨9223372036854775808 < M∧M < 18446744073709551616∨M=9223372036854775808∨0 < M∧M < 9223372036854775808:=by omega
  ·have HSN:Hid (smallN z.natAbs=0):=Lib.hid (by rw[← hM];unfold smallN;rw[B64_eq];exact if_neg (by omega))
   have HSB:Hid (smallB z.natAbs=false):=Lib.hid (by rw[← hM];unfold smallB;rw[B64_eq];exact decide_eq_false (by omega))
   have hfit:fits z=false:=by cases hq:fits z;rfl;have:=fits_iff.1 hq;omega
   have HV:Hid (fitV z=0):=Lib.hid (fitV_out hfit)
   have HE:=Lib.hid hfit
   clear hM hfit hb hc
   obtain⟨W0,hW0,E0,p1⟩:=boxed1 w 43 #[.bool true,.slice a n c]
   replace p1:=p1.b2
   replace hz:Zw W0 (.agg #[.bool true,.slice a n c]) z:=hz.ext E0
   go_enter Tryz.func25,Tryz.ntmps25
   obtain⟨k1a,k1b⟩:=p1.c2
   go_wp2_with fail
   rw[← hW0]
   clear hW0;clear k1a k1b
   refine(Tryz.refSmall hz.num).mono ?_
   rintro e Wc ⟨rfl,rfl⟩
   rw[HSN.out,HSB.out]
   obtain⟨k1a,k1b⟩:=p1.c2
   go_wp2;go_ret2
   exact⟨by rw[HV.out,HE.out];rfl,E0⟩
  ·have HSN:Hid (smallN z.natAbs=M):=Lib.hid (by rw[← hM];unfold smallN;rw[B64_eq];exact if_pos (by omega))
   have HSB:Hid (smallB z.natAbs=true):=Lib.hid (by rw[← hM];unfold smallB;rw[B64_eq];exact decide_eq_true (by omega))
   have hfit:fits z=false:=by cases hq:fits z;rfl;have:=fits_iff.1 hq;omega
   have HV:Hid (fitV z=0):=Lib.hid (fitV_out hfit)
   have HE:=Lib.hid hfit
   have g1:(9223372036854775807:Int) < (M:Int):=by omega
   have g1n:9223372036854775807 < M:=by omega
   have g2:(9223372036854775808:Int) < (M:Int):=by omega
   have g2n:9223372036854775808 < M:=by omega
   have g1d:=decide_eq_true g1
   have g2d:=decide_eq_true g2
   have g3:((M:Int)==9223372036854775808)=false:=beq_eq_false_iff_ne.2 (by omega)
   clear hM hfit hb hc
   obtain⟨W0,hW0,E0,p1⟩:=boxed1 w 43 #[.bool true,.slice a n c]
   replace p1:=p1.b2
   replace hz:Zw W0 (.agg #[.bool true,.slice a n c]) z:=hz.ext E0
   go_enter Tryz.func25,Tryz.ntmps25
   obtain⟨k1a,k1b⟩:=p1.c2
   go_wp2_with fail
   rw[← hW0]
   clear hW0;clear k1a k1b
   refine(Tryz.refSmall hz.num).mono ?_
   rintro e Wc ⟨rfl,rfl⟩
   rw[HSN.out,HSB.out]
   obtain⟨k1a,k1b⟩:=p1.c2
   go_wp2;go_ret2
   exact⟨by rw[HV.out,HE.out];rfl,E0⟩
  ·have HSN:Hid (smallN z.natAbs=M):=Lib.hid (by rw[← hM];unfold smallN;rw[B64_eq];exact if_pos (by omega))
   have HSB:Hid (smallB z.natAbs=true):=Lib.hid (by rw[← hM];unfold smallB;rw[B64_eq];exact decide_eq_true (by omega))
   have hfit:fits z=true:=by exact fits_iff.2 (by omega)
   have HV:Hid (fitV z = -9223372036854775808):=Lib.hid (by rw[fitV_in hfit];omega)
   have HE:=Lib.hid hfit
   have g1:(9223372036854775807:Int) < (M:Int):=by omega
   have g1n:9223372036854775807 < M:=by omega
   have g2:¬ (9223372036854775808:Int) < (M:Int):=by omega
   have g2n:¬ 9223372036854775808 < M:=by omega
   have g1d:=decide_eq_true g1
   have g2d:=decide_eq_false g2
   have g3:((M:Int)==9223372036854775808)=true:=beq_iff_eq.2 (by omega)
   clear hM hfit hb hc
   obtain⟨W0,hW0,E0,p1⟩:=boxed1 w 43 #[.bool true,.slice a n c]
   replace p1:=p1.b2
   replace hz:Zw W0 (.agg #[.bool true,.slice a n c]) z:=hz.ext E0
   go_enter Tryz.func25,Tryz.ntmps25
   obtain⟨k1a,k1b⟩:=p1.c2
   go_wp2_with fail
   rw[← hW0]
   clear hW0;clear k1a k1b
   refine(Tryz.refSmall hz.num).mono ?_
   rintro e Wc ⟨rfl,rfl⟩
   rw[HSN.out,HSB.out]
   obtain⟨k1a,k1b⟩:=p1.c2
   go_wp2;go_ret2
   exact⟨by rw[HV.out,HE.out];rfl,E0⟩
  ·have HSN:Hid (smallN z.natAbs=M):=Lib.hid (by rw[← hM];unfold smallN;rw[B64_eq];exact if_pos (by omega))
   have HSB:Hid (smallB z.natAbs=true):=Lib.hid (by rw[← hM];unfold smallB;rw[B64_eq];exact decide_eq_true (by omega))
   have hfit:fits z=true:=by exact fits_iff.2 (by omega)
   have HV:Hid (fitV z = -(M:Int)):=Lib.hid (by rw[fitV_in hfit];omega)
   have HE:=Lib.hid hfit
   have g1:¬ (9223372036854775807:Int) < (M:Int):=by omega
   have g1n:¬ 9223372036854775807 < M:=by omega
   have g2:¬ (9223372036854775808:Int) < (M:Int):=by omega
   have g2n:¬ 9223372036854775808 < M:=by omega
   have g1d:=decide_eq_false g1
   have g2d:=decide_eq_false g2
   have g3:((M:Int)==9223372036854775808)=false:=beq_eq_false_iff_ne.2 (by omega)
   have g4:IntKind.i64.wrap (M:Int)=(M:Int):=by rw[IntKind.wrap_i64];omega
   have g5:IntKind.i64.wrap (-(M:Int)) = -(M:Int):=by rw[IntKind.wrap_i64];omega
   clear hM hfit hb hc
   obtain⟨W0,hW0,E0,p1⟩:=boxed1 w 43 #[.bool true,.slice a n c]
   replace p1:=p1.b2
   replace hz:Zw W0 (.agg #[.bool true,.slice a n c]) z:=hz.ext E0
   go_enter Tryz.func25,Tryz.ntmps25
   obtain⟨k1a,k1b⟩:=p1.c2
   go_wp2_with fail
   rw[← hW0]
   clear hW0;clear k1a k1b
   refine(Tryz.refSmall hz.num).mono ?_
   rintro e Wc ⟨rfl,rfl⟩
   rw[HSN.out,HSB.out]
   obtain⟨k1a,k1b⟩:=p1.c2
   go_wp2;go_ret2
   exact⟨by rw[HV.out,HE.out];rfl,E0⟩
theorem Tryz.fixAddV (a b:Int)  (w:World) (ha1:-9223372036854775808≤a) (ha2:a < 9223372036854775808) (hb1:-9223372036854775808≤b) (hb2:b < 9223372036854775808) {V E:Int} (hV:fitV (a+b)=V) (hE:fitE (a+b)=E):
  Calls Tryz.prog 83 #[.int .i64 a,.int .i64 b] w fun e w'=>e=.returned (.tuple #[.int .i64 V,.int .i64 E])∧Ext w w':=by
 subst hV
 subst hE
 exact(Tryz.fixAdd a b w ha1 ha2 hb1 hb2).mono fun _ _ h=>⟨h.1,by rw[← h.2];exact Ext.refl _⟩
theorem Tryz.fixSubV (a b:Int)  (w:World) (ha1:-9223372036854775808≤a) (ha2:a < 9223372036854775808) (hb1:-9223372036854775808≤b) (hb2:b < 9223372036854775808) {V E:Int} (hV:fitV (a - b)=V) (hE:fitE (a - b)=E):
  Calls Tryz.prog 46 #[.int .i64 a,.int .i64 b] w fun e w'=>e=.returned (.tuple #[.int .i64 V,.int .i64 E])∧Ext w w':=by
 subst hV
 subst hE
 exact(Tryz.fixSub a b w ha1 ha2 hb1 hb2).mono fun _ _ h=>⟨h.1,by rw[← h.2];exact Ext.refl _⟩
theorem Tryz.fixMulV (a b:Int) (K:Nat) (hK:K≤40) (w:World) (ha1:-9223372036854775808≤a) (ha2:a < 9223372036854775808) (hb1:-9223372036854775808≤b) (hb2:b < 9223372036854775808) {V E:Int} (hV:fitV (nearR (((a*b:Int):Rat) / ((2^K:Nat):Rat)))=V) (hE:fitE (nearR (((a*b:Int):Rat) / ((2^K:Nat):Rat)))=E):
  Calls Tryz.prog 90 #[.int .i64 a,.int .i64 b,.int .i64 (K:Int)] w fun e w'=>e=.returned (.tuple #[.int .i64 V,.int .i64 E])∧Ext w w':=by
 subst hV
 subst hE
 exact Tryz.fixMul a b K hK w ha1 ha2 hb1 hb2
theorem Tryz.fixDivV (a b:Int) (K:Nat) (hK:K≤40) (w:World) (ha1:-9223372036854775808≤a) (ha2:a < 9223372036854775808) (hb1:-9223372036854775808≤b) (hb2:b < 9223372036854775808) (hb0:b≠0) {V E:Int} (hV:fitV (nearR (((a*((2^K:Nat):Int):Int):Rat) / (b:Rat)))=V) (hE:fitE (nearR (((a*((2^K:Nat):Int):Int):Rat) / (b:Rat)))=E):
  Calls Tryz.prog 89 #[.int .i64 a,.int .i64 b,.int .i64 (K:Int)] w fun e w'=>e=.returned (.tuple #[.int .i64 V,.int .i64 E])∧Ext w w':=by
 subst hV
 subst hE
 exact Tryz.fixDiv a b K hK w ha1 ha2 hb1 hb2 hb0
theorem Tryz.fixScaleV (a b:Int) (d:Nat) (w:World) (ha1:-9223372036854775808≤a) (ha2:a < 9223372036854775808) (hb1:-9223372036854775808≤b) (hb2:b < 9223372036854775808) (hd0:0 < d) (hd:d < 9223372036854775808) {V E:Int} (hV:fitV (nearR (((a*b:Int):Rat) / (d:Rat)))=V) (hE:fitE (nearR (((a*b:Int):Rat) / (d:Rat)))=E):
  Calls Tryz.prog 87 #[.int .i64 a,.int .i64 b,.int .i64 (d:Int)] w fun e w'=>e=.returned (.tuple #[.int .i64 V,.int .i64 E])∧Ext w w':=by
 subst hV
 subst hE
 exact Tryz.fixScale a b d w ha1 ha2 hb1 hb2 hd0 hd
set_option maxRecDepth 100000 in
set_option maxHeartbeats 4000000 in
theorem Tryz.fixSqrt (A K:Nat) (w:World) (hA:A < 9223372036854775808) (hK:K≤40):
  Calls Tryz.prog 88 #[.int .i64 (A:Int),.int .i64 (K:Int)] w fun e w'=>e=.returned (.tuple #[.int .i64 ((rt (A*2^K) 2:Nat):Int),.int .i64 0])∧Ext w w':=by
 have hKF:fracB (K:Int)=true:=decide_eq_true (by omega)
 have ha0:¬ (A:Int) < 0:=by omega
 have had:decide ((A:Int) < 0)=false:=decide_eq_false ha0
 have hwa:IntKind.u64.wrap (A:Int)=(A:Int):=by rw[IntKind.wrap_u64];omega
 obtain⟨N,hN⟩:∃ N,N=A*2^K:=⟨_,rfl⟩
 have hNb:N < 9223372036854775808*1099511627776:=by
  rw[hN]
  have h1:2^K≤1099511627776:=Nat.le_trans (Nat.pow_le_pow_right (by omega) hK) (by decide)
  exact Nat.lt_of_le_of_lt (Nat.mul_le_mul_left _ h1) (Nat.mul_lt_mul_of_pos_right hA (by decide))
 have HAB:Hid (A < B64):=Lib.hid (by rw[B64_eq];omega)
 have S1:Hid (Sm 1 A):=Lib.hid (Sm.small (by omega))
 have S2:Hid (Sm 2 N):=Lib.hid (Nat.lt_trans hNb (by rw[B64_eq];decide))
 have HRE:Hid (rootE 2=0):=Lib.hid rfl
 have HRT:Hid (rootV N 2=rt N 2):=Lib.hid (if_pos (by omega))
 have hr:rt N 2 < 9223372036854775808:=by
  have:=(rt_le_iff (a:=N) (s:=9223372036854775807) (k:=2) (by omega)).2 (Nat.lt_trans hNb (by decide))
  omega
 have hfit:fits ((rt N 2:Nat):Int)=true:=fits_iff.2 (by omega)
 have HV:Hid (fitV ((rt N 2:Nat):Int)=((rt N 2:Nat):Int)):=Lib.hid (fitV_in hfit)
 have HF:=Lib.hid hfit
 have HN:=Lib.hid hN
 rw[← hN]
 clear hfit hr hNb hN
 obtain⟨R,hR⟩:∃ R,R=rt N 2:=⟨_,rfl⟩
 rw[← hR]at HRT HV HF ⊢
 clear hR
 obtain⟨W0,hW0⟩:∃ W0,W0=w:=⟨_,rfl⟩
 have E0:Ext w W0:=by rw[hW0];exact Ext.refl w
 go_enter Tryz.func88,Tryz.ntmps88
 go_wp2_with fail
 rw[← hW0]
 clear hW0
 refine(Tryz.fixIsFrac (K:Int) _).mono ?_
 rintro e Wc ⟨rfl,rfl⟩
 rw[hKF]
 go_wp2_with fail
 refine(Tryz.natOf A _ HAB.out).mono ?_
 rintro e Wa ⟨v1,rfl,g1,hE,-⟩
 replace E0:Ext w Wa:=(Ext.trans E0 hE)
 clear hE
 go_wp2_with fail
 refine(Tryz.divShlK g1 S1.out (by omega) K (by omega)).mono ?_
 rintro e Wb ⟨v2,rfl,g2,hE⟩
 rw[← HN.out]at g2
 replace E0:Ext w Wb:=(Ext.trans E0 hE)
 replace g1:Nw Wb v1 A:=(g1.ext hE)
 clear hE
 go_wp2_with fail
 refine(Tryz.rootRoot g2 S2.out (by omega) 2).mono ?_
 rintro e Wc2 ⟨v3,rfl,g3,hE⟩
 rw[HRE.out]
 rw[HRT.out]at g3
 replace E0:Ext w Wc2:=(Ext.trans E0 hE)
 replace g1:Nw Wc2 v1 A:=(g1.ext hE)
 replace g2:Nw Wc2 v2 N:=(g2.ext hE)
 clear hE
 obtain⟨a3,n3,c3,rfl⟩:=Nw.slice g3
 go_wp2_with fail
 refine(Tryz.zedInt (Zw.ofN g3)).mono ?_
 rintro e Wd ⟨rfl,hQ⟩
 rw[HV.out,HF.out]
 replace E0:=Ext.trans E0 hQ;go_wp2;go_ret2
 exact⟨rfl,E0⟩
end Go.Rt
