/-
  nat.Bits; powers, by the program and by the reference.
  root.Root: Newton's steps; Up; Pow.
  root.Pow, root.Up; the reference's Pow, Root, Up.
-/
import Derived.Test.YtiebflipijcnfaaGreatGF
import Derived.Test.YtiebflipijcnfaaGreatGE
namespace Go.Rt
open Go.RowKit Go.Proofs
set_option maxHeartbeats 1000000 in
theorem Tryz.natBits {v:Value} {N L:Nat} {w:World} (h:Nw w v N) (s:Sm L N) (hL:L≤10000000):
  Calls Tryz.prog 82 #[v] w fun e w'=>e=.returned (.int .i64 ((bl N:Nat):Int))∧w=w':=by
 obtain⟨xs,⟨a,b,o,cap,rfl,hs,hl⟩,hn,rfl,l1⟩:=h.lens s
 have hle:=hs.le
 have hmx:=hs.max
 by_cases h0:xs.length=0
 ·have HB:Hid (bl (ev B64 xs)=0):=Lib.hid (by rw[(hn.zero_iff B64_pos).2 h0];rfl)
  have h0':((xs.length:Int)==0)=true:=by simp[h0]
  clear h0 hs h s
  go_enter Tryz.func82,Tryz.ntmps82
  go_wp2
  go_ret
  exact⟨by rw[HB.out];rfl,rfl⟩
 ·have h0':((xs.length:Int)==0)=false:=beq_eq_false_iff_ne.2 (by omega)
  obtain rfl:=hs.addr (by omega)
  have hc:=hs.cell (i:=xs.length - 1) (by omega)
  obtain⟨e1,-⟩:=bl_ev hl hn (show xs.length=(xs.length - 1)+1 by omega)
  have hx64:=lg_lt hl (xs.length - 1)
  have hb64:bl (lg xs (xs.length - 1))≤64:=(bl_le_iff _ _).2 (by rw[← B64_two];exact hx64)
  have e2:bl (ev B64 xs)=64*(xs.length - 1)+bl (lg xs (xs.length - 1)):=e1
  have HE:=Lib.hid e2
  obtain⟨t,ht⟩:∃ t,t=lg xs (xs.length - 1):=⟨_,rfl⟩
  rw[← ht]at hc hx64 hb64
  have HT:=Lib.hid ht
  have h1:1≤xs.length:=by omega
  clear h0 hs h s e1 e2 ht hn
  go_enter Tryz.func82,Tryz.ntmps82
  go_wp2_with (go_at_call 102;refine(Tryz.len64 t _ hx64).mono ?_;rintro e w' ⟨rfl,rfl⟩)
  go_ret
  refine⟨ret_i ?_,rfl⟩
  rw[HE.out,HT.out]
  omega
theorem bits_and1_i64 (a:Nat) (ha:a < 9223372036854775808):bits .and .i64 (a:Int) 1=((a % 2:Nat):Int):=by
 have h1:(BitVec.ofInt 64 (a:Int)).toNat=a:=by
  rw[BitVec.ofInt_natCast,BitVec.toNat_ofNat];exact Nat.mod_eq_of_lt (by omega)
 have h2:(BitVec.ofInt 64 (1:Int)).toNat=1:=by decide
 show IntKind.i64.wrap ((BitVec.ofInt 64 (a:Int) &&& BitVec.ofInt 64 (1:Int)).toNat:Int)=_
 rw[BitVec.toNat_and,h1,h2,IntKind.wrap_i64,Nat.and_one_is_mod]
 omega
/-! powers -/
theorem Sm.pow {L N:Nat} (h:Sm L N):∀ j,Sm (L*j+1) (N^j)
 | 0=>by unfold Sm;rw[Nat.pow_zero,Nat.mul_zero,Nat.zero_add,Nat.pow_one,B64_eq];omega
 | j+1=>by
  rw[Nat.pow_succ,Nat.mul_add,Nat.mul_one]
  exact((Sm.pow h j).mul h).mono (by omega)
set_option maxHeartbeats 1000000 in
theorem Tryz.refPower {v:Value} {N L:Nat} {w:World} (h:Nw w v N) (s:Sm L N) (K:Nat) (hL:L*K+L+1≤10000000) (hK:K≤1000000):
  Calls Tryz.prog 51 #[v,.int .i64 (K:Int)] w fun e w'=>∃ v',e=.returned v'∧Nw w' v' (N^K)∧Ext w w':=by
 have b1:1 < B64:=by rw[B64_eq];omega
 go_enter Tryz.func51,Tryz.ntmps51
 go_wp2_with fail
 refine(Tryz.refOf 1 _ b1).mono ?_
 rintro e w1 ⟨v1,rfl,h1,hE1,-⟩
 clear b1
 go_wp2_with fail
 go_loopw [5,6] (fun o i wr=>∃ k:Nat,i=.int .i64 (k:Int)∧k≤K∧Nw wr o (N^k)∧Ext w wr) (fun _ i _=>K - (intOf i).toNat)
 case atStart=>exact⟨0,rfl,by omega,by rw[Nat.pow_zero];exact h1,hE1⟩
 case round=>
  obtain⟨k,rfl,hk,ho,hE⟩:=hrel
  clear h1 hE1
  by_cases hlt:k < K
  ·have hkI:(k:Int) < (K:Int):=by omega
   have hm:L*k≤L*K:=Nat.mul_le_mul_left _ (by omega)
   go_wp2_with fail
   refine(Tryz.refMul ho (h.ext hE) (s.pow k) s (by omega)).mono ?_
   rintro e w2 ⟨v2,rfl,h2,hE2,-⟩
   rw[← Nat.pow_succ]at h2
   go_wp2
   go_roundw
   case rel=>exact⟨k+1,by go_num,by omega,h2,hE.trans hE2⟩
   case measure=>simp[intOf];omega
  ·obtain rfl:k=K:=by omega
   go_wp2
   go_ret
   exact⟨_,rfl,ho,hE⟩
set_option maxHeartbeats 1000000 in
theorem Tryz.power2 {v:Value} {N L:Nat} {w:World} (h:Nw w v N) (s:Sm L N) (K:Nat) (hL:2*(L*K+L+1)≤10000000) (hK:K≤1000000):
  Calls Tryz.prog 70 #[v,.int .i64 (K:Int)] w fun e w'=>∃ v',e=.returned v'∧Nw w' v' (N^K)∧Ext w w':=by
 have b1:1 < B64:=by rw[B64_eq];omega
 go_enter Tryz.func70,Tryz.ntmps70
 go_wp2_with fail
 refine(Tryz.natOf 1 _ b1).mono ?_
 rintro e w1 ⟨v1,rfl,h1,hE1,-⟩
 clear b1
 go_wp2_with fail
 go_loopw [0,1,5] (fun a i o wr=>∃ k p q:Nat,i=.int .i64 (k:Int)∧k≤K∧Nw wr o (N^p)∧Nw wr a (N^q)∧Hid (p+q*k=K)∧Ext w wr) (fun _ i _ _=>(intOf i).toNat)
 case atStart=>exact⟨K,0,1,rfl,by omega,by rw[Nat.pow_zero];exact h1,by rw[Nat.pow_one];exact h.ext hE1,Lib.hid (by omega),hE1⟩
 case round=>
  obtain⟨k,p,q,rfl,hk,ho,ha,hpq,hE⟩:=hrel
  clear h1 hE1
  by_cases hlt:0 < k
  ·have hkI:(0:Int) < (k:Int):=by omega
   have hq:q≤K:=by
    have h2:q*1≤q*k:=Nat.mul_le_mul_left _ hlt
    have:=hpq.out;omega
   have hp:p≤K:=by have:=hpq.out;omega
   have m1:L*p≤L*K:=Nat.mul_le_mul_left _ hp
   have m2:L*q≤L*K:=Nat.mul_le_mul_left _ hq
   have s1:=s.pow p
   have s2:=s.pow q
   by_cases hodd:k % 2=1
   ·by_cases hbig:1 < k
    ·have hb:(bits .and .i64 (k:Int) 1==1)=true:=by rw[bits_and1_i64 k (by omega)];simp;omega
     have hkb:(1:Int) < (k:Int):=by omega
     have E:=Ext.refl wr
     go_wp2_with fail
     refine(Tryz.natMul ho ha s1 s2 (by omega)).mono ?_
     rintro e w2 ⟨v2,rfl,h2,hE2,-⟩
     rw[← Nat.pow_add]at h2
     replace ha:=ha.ext hE2
     replace E:=E.trans hE2
     go_wp2_with fail
     refine(Tryz.natMul ha ha s2 s2 (by omega)).mono ?_
     rintro e w3 ⟨v3,rfl,h3,hE3,-⟩
     rw[← Nat.pow_add]at h3
     replace h2:=h2.ext hE3
     replace E:=E.trans hE3
     go_wp2
     go_roundw
     case rel=>
      refine⟨k / 2,p+q,q+q,congrArg (Value.int .i64) (by omega),by omega,h2,h3,Lib.hid ?_,hE.trans E⟩
      have h9:=hpq.out
      obtain⟨m,rfl⟩:∃ m,k=2*m+1:=⟨k / 2,by omega⟩
      rw[show (2*m+1) / 2=m from by omega]
      rw[Nat.mul_add,Nat.mul_one,← Nat.mul_assoc,Nat.mul_comm q 2]at h9
      rw[Nat.add_mul,← Nat.two_mul,← Nat.mul_assoc]
      omega
     case measure=>simp[intOf];omega
    ·have hb:(bits .and .i64 (k:Int) 1==1)=true:=by rw[bits_and1_i64 k (by omega)];simp;omega
     have hkb:¬ (1:Int) < (k:Int):=by omega
     have E:=Ext.refl wr
     go_wp2_with fail
     refine(Tryz.natMul ho ha s1 s2 (by omega)).mono ?_
     rintro e w2 ⟨v2,rfl,h2,hE2,-⟩
     rw[← Nat.pow_add]at h2
     replace ha:=ha.ext hE2
     replace E:=E.trans hE2
     go_wp2
     go_roundw
     case rel=>
      refine⟨k / 2,p+q,q,congrArg (Value.int .i64) (by omega),by omega,h2,ha,Lib.hid ?_,hE.trans E⟩
      have h9:=hpq.out
      obtain rfl:k=1:=by omega
      rw[show 1 / 2=0 from rfl,Nat.mul_zero];omega
     case measure=>simp[intOf];omega
   ·have hbig:1 < k:=by omega
    have hb:(bits .and .i64 (k:Int) 1==1)=false:=by rw[bits_and1_i64 k (by omega)];simp;omega
    have hkb:(1:Int) < (k:Int):=by omega
    have E:=Ext.refl wr
    go_wp2_with fail
    refine(Tryz.natMul ha ha s2 s2 (by omega)).mono ?_
    rintro e w3 ⟨v3,rfl,h3,hE3,-⟩
    rw[← Nat.pow_add]at h3
    replace ho:=ho.ext hE3
    replace E:=E.trans hE3
    go_wp2
    go_roundw
    case rel=>
     refine⟨k / 2,p,q+q,congrArg (Value.int .i64) (by omega),by omega,ho,h3,Lib.hid ?_,hE.trans E⟩
     have h9:=hpq.out
     obtain⟨m,rfl⟩:∃ m,k=2*m:=⟨k / 2,by omega⟩
     rw[show (2*m) / 2=m from by omega]
     rw[← Nat.mul_assoc,Nat.mul_comm q 2]at h9
     rw[Nat.add_mul,← Nat.two_mul,← Nat.mul_assoc]
     omega
    case measure=>simp[intOf];omega
  ·obtain rfl:k=0:=by omega
   have HP:Hid (p=K):=Lib.hid (by have:=hpq.out;omega)
   clear hpq
   go_wp2
   go_ret
   exact⟨_,rfl,by rw[← HP.out];exact ho,hE⟩
end Go.Rt
namespace Go.Rt
open Go.RowKit Go.Proofs
def nx (A k X:Nat):Nat:=((k - 1)*X+A / X^(k - 1)) / k
def rootE (k:Int):Int:=if 1≤k∧k≤16 then 0 else 1
noncomputable def rootV (A:Nat) (k:Int):Nat:=if 1≤k∧k≤16 then rt A k.toNat else 0
noncomputable def rootU (A:Nat) (k:Int):Nat:=if 1≤k∧k≤16 then rtUp A k.toNat else 0
def powV (A:Nat) (k:Int):Nat:=if 1≤k∧k≤16 then A^k.toNat else 0
set_option maxRecDepth 100000 in
set_option maxHeartbeats 2000000 in
theorem Tryz.rootNext {va vx:Value} {A X L k Ba Bk:Nat} {w:World} (ca:w.cell? ⟨Ba,0,none⟩=some va) (ck:w.cell? ⟨Bk,0,none⟩=some (.int .i64 (k:Int))) (hA:Nw w va A) (hX:Nw w vx X) (s1:Sm L A) (s2:Sm L X) (hL:L≤100000) (hk1:1≤k) (hk2:k≤16):
  Calls Tryz.prog 79 #[vx,.pointer (some ⟨Ba,0,none⟩),.pointer (some ⟨Bk,0,none⟩)] w fun e w'=>∃ v',e=.returned v'∧Nw w' v' (nx A k X)∧Ext w w':=by
 have hw1:IntKind.i64.wrap ((k:Int) - 1)=((k - 1:Nat):Int):=by rw[IntWalk.i64_in _ (by omega)];omega
 have hw2:(k:Int) - 1=((k - 1:Nat):Int):=by omega
 have hw3:IntKind.u64.wrap ((k - 1:Nat):Int)=((k - 1:Nat):Int):=wrap_u64 _ (by rw[B64_eq];omega)
 have hw4:IntKind.u64.wrap (k:Int)=(k:Int):=wrap_u64 _ (by rw[B64_eq];omega)
 have HW2:=Lib.hid hw2
 have HW3:=Lib.hid hw3
 have HW4:=Lib.hid hw4
 have b1:k - 1 < B64:=by rw[B64_eq];omega
 have b2:k < B64:=by rw[B64_eq];omega
 have hm:L*(k - 1)≤L*15:=Nat.mul_le_mul_left _ (by omega)
 have hpw:2*(L*(k - 1)+L+1)≤10000000:=by omega
 have hk3:k - 1≤1000000:=by omega
 have hLL:L≤300000:=by omega
 have hpow:∀ W,Ext w W→Calls Tryz.prog 70 #[vx,.int .i64 ((k - 1:Nat):Int)] W fun e w'=>∃ v',e=.returned v'∧Nw w' v' (X^(k - 1))∧Ext W w':=fun W h=>Tryz.power2 (hX.ext h) s2 (k - 1) hpw hk3
 have HPOW:=Lib.hid hpow
 clear hw2 hw3 hw4 hm hpow
 go_enter Tryz.func79,Tryz.ntmps79
 go_wp2_with fail
 go_region_held3 (fun W=>W.cell? ⟨Ba,0,none⟩=some va∧W.cell? ⟨Bk,0,none⟩=some (.int .i64 (k:Int))) (first | exact⟨ca,ck⟩ | exact⟨hT2.cell ca,hT2.cell ck⟩ | exact⟨hT.cell ca,hT.cell ck⟩)
  (first
   | (go_at_call 70;refine(HPOW.out _ (Ext.drew1 _)).mono ?_;rintro e w1 ⟨v1,rfl,hp,hE⟩;have hT:=(Ext.drew1 w).trans hE)
   | (go_at_call 37;refine(Tryz.divDivMod (hA.ext hT) hp s1 hLL).mono ?_;rintro e w2 ⟨v2,v3,rfl,hq,-,hE2,-,-⟩;have hT2:=hT.trans hE2))
 have c1:=hT2.cell ca
 have c2:=hT2.cell ck
 have hX2:=hX.ext hT2
 have sq:Sm L (A / X^(k - 1)):=s1.le (Nat.div_le_self _ _)
 have hT3:=hT2
 clear hT hT2 hE hE2 hp
 go_wp2_with fail
 refine(Tryz.natOf (k - 1) _ b1).mono ?_
 rintro e w3 ⟨v4,rfl,h4,hE4,-⟩
 replace hX2:=hX2.ext hE4
 replace hq:=hq.ext hE4
 replace c2:=hE4.cell c2
 replace hT3:=hT3.trans hE4
 go_wp2_with fail
 refine(Tryz.natMul h4 hX2 (Sm.one b1) s2 (by omega)).mono ?_
 rintro e w4 ⟨v5,rfl,h5,hE5,-⟩
 replace hq:=hq.ext hE5
 replace c2:=hE5.cell c2
 replace hT3:=hT3.trans hE5
 go_wp2_with fail
 refine(Tryz.natAdd h5 hq ((Sm.one b1).mul s2) (sq.mono (by omega)) (by omega)).mono ?_
 rintro e w5 ⟨v6,rfl,h6,hE6,-⟩
 replace c2:=hE6.cell c2
 replace hT3:=hT3.trans hE6
 go_wp2_with fail
 refine(Tryz.natOf k _ b2).mono ?_
 rintro e w6 ⟨v7,rfl,h7,hE7,-⟩
 replace h6:=h6.ext hE7
 replace hT3:=hT3.trans hE7
 go_wp2_with fail
 refine(Tryz.divDivMod h6 h7 (((Sm.one b1).mul s2).add (sq.mono (by omega))) (by omega)).mono ?_
 rintro e w7 ⟨v8,v9,rfl,h8,-,hE8,-,-⟩
 replace hT3:=hT3.trans hE8
 go_wp2
 go_ret
 exact⟨_,rfl,h8,hT3⟩
theorem nx_pos {A k X:Nat} (hk:1≤k) (hA:0 < A) (hX:0 < X):0 < nx A k X∧rt A k≤nx A k X:=by
 have h:=newton_ge (a:=A) hk hX
 have:=rt_pos hk hA
 exact⟨by unfold nx;omega,h⟩
theorem nx_stop {A k X:Nat} (hk:1≤k) (h1:rt A k≤X) (h:¬ nx A k X < X):X=rt A k:=by
 rcases Nat.lt_or_ge (rt A k) X with h2 | h2
 ·exact absurd (newton_lt hk h2) h
 ·omega
theorem start_sm {A L k:Nat} (s:Sm L A):Sm (L+1) (2^(bl A / k+1)):=by
 refine(Sm.pow2 (bl A / k+1)).mono ?_
 have h1:=bl_sm s
 have h2:bl A / k≤bl A:=Nat.div_le_self _ _
 omega
theorem Tryz.isExpT (m:Nat) (w:World) (h1:1≤m) (h2:m≤16):Calls Tryz.prog 69 #[.int .i64 (m:Int)] w fun e w'=>e=.returned (.bool true)∧w=w':=by
 have k1:(1:Int)≤(m:Int):=by omega
 have k2:(m:Int)≤16:=by omega
 go_enter Tryz.func69,Tryz.ntmps69
 go_wp2
 go_ret
 exact⟨rfl,rfl⟩
set_option maxRecDepth 100000 in
set_option maxHeartbeats 4000000 in
theorem Tryz.rootRoot {v:Value} {A L:Nat} {w:World} (h:Nw w v A) (s:Sm L A) (hL:L≤300) (k:Int):
  Calls Tryz.prog 38 #[v,.int .i64 k] w fun e w'=>∃ v',e=.returned (.tuple #[v',.int .i64 (rootE k)])∧Nw w' v' (rootV A k)∧Ext w w':=by
 have h':=h
 obtain⟨a,n,cap,rfl,hn0,-⟩:=h.len
 clear h
 by_cases hk:1≤k∧k≤16
 ·have H1:Hid (rootE k=0):=Lib.hid (if_pos hk)
  have H2:Hid (rootV A k=rt A k.toNat):=Lib.hid (if_pos hk)
  obtain⟨hk1,hk2⟩:=hk
  obtain⟨m,rfl⟩:=Int.eq_ofNat_of_zero_le (show 0≤k by omega)
  rw[show ((m:Int)).toNat=m from rfl]at H2
  have hm1:1≤m:=by omega
  have hm2:m≤16:=by omega
  rcases Nat.eq_zero_or_pos A with rfl | hA
  ·obtain rfl:n=0:=hn0.2 rfl
   have H3:Hid (rootV 0 (m:Int)=0):=Lib.hid (by rw[H2.out];exact rt_zero hm1)
   clear hn0
   go_enter Tryz.func38,Tryz.ntmps38
   go_wp2
   go_ret2
   exact⟨_,by rw[H1.out];rfl,by rw[H3.out];exact Nw.nil _,(Ext.alloc1 _ _).alloc _⟩
  ·have hnb:((n:Int)==0)=false:=beq_eq_false_iff_ne.2 (fun e=>by have:=hn0.1 (by omega);omega)
   have hmf:∀ (fn:Fn) (first cap:Array Value) (w:World),(Instr.makeFunc fn first cap).run Tryz.prog w=.ok (.func fn first cap) w:=fun _ _ _ _=>rfl
   have hbl:=bl_sm s
   obtain⟨b,hb⟩:∃ b,b=bl A:=⟨_,rfl⟩
   have hd:((b:Int)).tdiv (m:Int)=((b / m:Nat):Int):=by rw[Int.tdiv_eq_ediv_of_nonneg (by omega)];rfl
   have hd2:((b:Int)) / (m:Int)=((b / m:Nat):Int):=rfl
   have hdl:b / m≤19200:=Nat.le_trans (Nat.div_le_self _ _) (by omega)
   obtain⟨d,hdd⟩:∃ d,d=b / m:=⟨_,rfl⟩
   rw[← hdd]at hd hd2 hdl
   have hw1:IntKind.i64.wrap ((d:Int))=(d:Int):=IntWalk.i64_in _ (by omega)
   have hw2:IntKind.i64.wrap ((d:Int)+1)=(d:Int)+1:=IntWalk.i64_in _ (by omega)
   have HB:=Lib.hid hb
   have HD:=Lib.hid hdd
   have b1:1 < B64:=by rw[B64_eq];omega
   have E0:Ext w ((w.alloc (.cells #[.slice a n cap] 41)).alloc (.cells #[.int .i64 (m:Int)] 3)):=(Ext.alloc1 _ _).alloc _
   have ca:=((Boxed.new w 41 (.slice a n cap)).alloc (.cells #[.int .i64 (m:Int)] 3)).cell
   have ck:=(Boxed.new (w.alloc (.cells #[.slice a n cap] 41)) 3 (.int .i64 (m:Int))).cell
   simp only[World.size_alloc]at ck
   obtain⟨W0,hW0⟩:∃ W0,W0=(w.alloc (.cells #[.slice a n cap] 41)).alloc (.cells #[.int .i64 (m:Int)] 3):=⟨_,rfl⟩
   have H3:Hid (shE ((d:Int)+1)=0):=Lib.hid (if_neg (by omega))
   have H4:Hid (shlV 1 ((d:Int)+1)=2^(bl A / m+1)):=Lib.hid (by
    unfold shlV
    rw[if_neg (by omega),Nat.one_mul,show ((d:Int)+1).toNat=d+1 from by omega,HD.out,HB.out])
   have hm0:((m:Int)==0)=false:=beq_eq_false_iff_ne.2 (by omega)
   have hm0a:¬ ((m:Int)=0):=by omega
   have hm0b:¬ (m=0):=by omega
   have hd3:IntKind.i64.wrap (((b:Int)).tdiv (m:Int))=(d:Int):=by rw[hd];exact hw1
   have hA0:=h'.ext E0
   rw[← hW0]at E0 ca ck hA0
   have hbits:∀ W,Ext W0 W→Calls Tryz.prog 82 #[.slice a n cap] W fun e w'=>e=.returned (.int .i64 (b:Int))∧W=w':=fun W h=>by rw[HB.out];exact Tryz.natBits (hA0.ext h) s (by omega)
   have hLs:Sm (L+1) A:=s.mono (by omega)
   clear hb hdd hn0 hbl
   go_enter Tryz.func38,Tryz.ntmps38
   go_wp2_with (go_at_call 69;refine(Tryz.isExpT m _ hm1 hm2).mono ?_;rintro e w' ⟨rfl,rfl⟩)
   rw[← hW0]
   have HBI:=Lib.hid hbits
   clear hW0 hbits
   go_region_held3 (fun W=>W.cell? ⟨w.heap.size,0,none⟩=some (.slice a n cap)∧W.cell? ⟨w.heap.size+1,0,none⟩=some (.int .i64 (m:Int))) (first | exact⟨ca,ck⟩ | exact⟨hT2.cell ca,hT2.cell ck⟩ | exact⟨hT.cell ca,hT.cell ck⟩)
    (first
     | (go_at_call 35;refine(Tryz.natOf 1 _ b1).mono ?_;rintro e w1 ⟨v1,rfl,hp,hE,-⟩;have hT:=(Ext.drew1 W0).trans hE)
     | (go_at_call 82;refine(HBI.out _ hT).mono ?_;rintro e w2 ⟨rfl,rfl⟩)
     | (go_at_call 34;refine(Tryz.divShl hp (Sm.one b1) (by omega) ((d:Int)+1)).mono ?_;rintro e w2 ⟨v2,rfl,hx,hE2,-⟩;have hT2:=hT.trans hE2))
   rw[H3.out]
   rw[H4.out]at hx
   have hT3:=hT2
   have sX:=start_sm (k:=m) s
   have hXp:0 < 2^(bl A / m+1):=Nat.two_pow_pos _
   have HXr:Hid (rt A m≤2^(bl A / m+1)):=Lib.hid (newton_start hm1)
   clear hT hT2 hE hE2 hp hd hd2 hd3 hw1 hw2 H3 H4 HB HD HBI
   generalize 2^(bl A / m+1)=X0 at *
   go_wp2_with fail
   refine(Tryz.rootNext (hT3.cell ca) (hT3.cell ck) (hA0.ext hT3) hx hLs sX (by omega) hm1 hm2).mono ?_
   rintro e w3 ⟨y0,rfl,hy,hE3⟩
   have hx3:=hx.ext hE3
   have hT4:=hT3.trans hE3
   clear hT3 hE3 hx
   go_wp2_with fail
   go_loopw [7,9] (fun x y wr=>∃ X,Nw wr x X∧Nw wr y (nx A m X)∧Hid (rt A m≤X)∧0 < X∧Sm (L+1) X∧Ext W0 wr) (fun x _ wr=>numOf wr x)
   case atStart=>exact⟨X0,hx3,hy,HXr,hXp,sX,hT4⟩
   case round=>
    obtain⟨X,hx,hy2,hr,hp,hs,hT⟩:=hrel
    clear hx3 hy HXr hXp sX hT4
    have hnp:=nx_pos hm1 hA hp
    by_cases hlt:nx A m X < X
    ·have HC:Hid (cmpI (nx A m X:Nat) (X:Nat) = -1):=Lib.hid (cmpI_nat_lt hlt)
     have hs2:Sm (L+1) (nx A m X):=hs.le (by omega)
     go_wp2_with fail
     refine(Tryz.natCmp hy2 hx).mono ?_
     rintro e w4 ⟨rfl,hE4⟩
     rw[HC.out]
     have hT5:=hT.trans hE4
     go_wp2_with fail
     refine(Tryz.rootNext (hT5.cell ca) (hT5.cell ck) (hA0.ext hT5) (hy2.ext hE4) hLs hs2 (by omega) hm1 hm2).mono ?_
     rintro e w5 ⟨y5,rfl,hy5,hE5⟩
     have hT6:=hT5.trans hE5
     have hx6:=(hy2.ext hE4).ext hE5
     have HM1:Hid (numOf w5 u9=nx A m X):=Lib.hid (numOf_eq hx6)
     have HM2:Hid (numOf wr u7=X):=Lib.hid (numOf_eq hx)
     have HL:=Lib.hid hlt
     have HN:=Lib.hid hnp
     clear hE4 hE5 hT5 hlt hnp
     go_wp2
     go_roundw
     case rel=>exact⟨nx A m X,hx6,hy5,Lib.hid HN.out.2,HN.out.1,hs2,hT6⟩
     case measure=>rw[HM1.out,HM2.out];exact HL.out
    ·have hX:=nx_stop hm1 hr.out hlt
     have hc2:¬ (cmpI (nx A m X:Nat) (X:Nat) < 0):=by
      rcases Nat.lt_or_ge X (nx A m X)with h | h
      ·rw[cmpI_nat_gt h];omega
      ·rw[cmpI_nat_eq (by omega)];omega
     obtain⟨cc,hcc⟩:∃ c,c=cmpI (nx A m X:Nat) (X:Nat):=⟨_,rfl⟩
     rw[← hcc]at hc2
     have HCC:=Lib.hid hcc
     have HX:Hid (X=rootV A (m:Int)):=Lib.hid (by rw[H2.out];exact hX)
     clear hcc hX hlt hnp
     go_wp2_with fail
     refine(Tryz.natCmp hy2 hx).mono ?_
     rintro e w4 ⟨rfl,hE4⟩
     rw[← HCC.out]
     have hx4:=hx.ext hE4
     have hT5:=E0.trans (hT.trans hE4)
     clear hE4
     go_wp2
     go_ret2
     rw[H1.out,← HX.out]
     exact⟨_,rfl,hx4,hT5⟩
 ·have H1:Hid (rootE k=1):=Lib.hid (if_neg hk)
  have H2:Hid (rootV A k=0):=Lib.hid (if_neg hk)
  by_cases hk1:1≤k
  ·have hk2:¬ k≤16:=by omega
   clear hn0 hk
   go_enter Tryz.func38,Tryz.ntmps38
   go_wp2
   go_ret2
   exact⟨_,by rw[H1.out];rfl,by rw[H2.out];exact Nw.nil _,(Ext.alloc1 _ _).alloc _⟩
  ·clear hn0 hk
   go_enter Tryz.func38,Tryz.ntmps38
   go_wp2
   go_ret2
   exact⟨_,by rw[H1.out];rfl,by rw[H2.out];exact Nw.nil _,(Ext.alloc1 _ _).alloc _⟩
end Go.Rt
namespace Go.Rt
open Go.RowKit Go.Proofs
set_option maxHeartbeats 1000000 in
theorem Tryz.rootPow {v:Value} {A L:Nat} {w:World} (h:Nw w v A) (s:Sm L A) (hL:L≤100000) (k:Int):
  Calls Tryz.prog 36 #[v,.int .i64 k] w fun e w'=>∃ v',e=.returned (.tuple #[v',.int .i64 (rootE k)])∧Nw w' v' (powV A k)∧Ext w w':=by
 by_cases hk:1≤k∧k≤16
 ·have H1:Hid (rootE k=0):=Lib.hid (if_pos hk)
  have H2:Hid (powV A k=A^k.toNat):=Lib.hid (if_pos hk)
  obtain⟨hk1,hk2⟩:=hk
  obtain⟨m,rfl⟩:=Int.eq_ofNat_of_zero_le (show 0≤k by omega)
  rw[show ((m:Int)).toNat=m from rfl]at H2
  have hm1:1≤m:=by omega
  have hm2:m≤16:=by omega
  have hm:L*m≤L*16:=Nat.mul_le_mul_left _ hm2
  go_enter Tryz.func36,Tryz.ntmps36
  go_wp2_with fail
  refine(Tryz.isExpT m _ hm1 hm2).mono ?_
  rintro e w' ⟨rfl,rfl⟩
  go_wp2_with fail
  refine(Tryz.power2 h s m (by omega) (by omega)).mono ?_
  rintro e w1 ⟨v1,rfl,h1,hE⟩
  go_wp2
  go_ret2
  rw[H1.out,H2.out]
  exact⟨_,rfl,h1,hE⟩
 ·have H1:Hid (rootE k=1):=Lib.hid (if_neg hk)
  have H2:Hid (powV A k=0):=Lib.hid (if_neg hk)
  by_cases hk1:1≤k
  ·have hk2:¬ k≤16:=by omega
   clear hk
   go_enter Tryz.func36,Tryz.ntmps36
   go_wp2
   go_ret2
   exact⟨_,by rw[H1.out];rfl,by rw[H2.out];exact Nw.nil _,Ext.refl _⟩
  ·clear hk
   go_enter Tryz.func36,Tryz.ntmps36
   go_wp2
   go_ret2
   exact⟨_,by rw[H1.out];rfl,by rw[H2.out];exact Nw.nil _,Ext.refl _⟩
set_option maxHeartbeats 1000000 in
theorem Tryz.refPow {v:Value} {A L:Nat} {w:World} (h:Nw w v A) (s:Sm L A) (hL:L≤100000) (k:Int):
  Calls Tryz.prog 22 #[v,.int .i64 k] w fun e w'=>∃ v',e=.returned (.tuple #[v',.int .i64 (rootE k)])∧Nw w' v' (powV A k)∧Ext w w':=by
 by_cases hk:1≤k∧k≤16
 ·have H1:Hid (rootE k=0):=Lib.hid (if_pos hk)
  have H2:Hid (powV A k=A^k.toNat):=Lib.hid (if_pos hk)
  obtain⟨hk1,hk2⟩:=hk
  have hk3:¬ k < 1:=by omega
  have hk4:¬ 16 < k:=by omega
  obtain⟨m,rfl⟩:=Int.eq_ofNat_of_zero_le (show 0≤k by omega)
  rw[show ((m:Int)).toNat=m from rfl]at H2
  have hm2:m≤16:=by omega
  have hm:L*m≤L*16:=Nat.mul_le_mul_left _ hm2
  go_enter Tryz.func22,Tryz.ntmps22
  go_wp2_with fail
  refine(Tryz.refPower h s m (by omega) (by omega)).mono ?_
  rintro e w1 ⟨v1,rfl,h1,hE⟩
  go_wp2
  go_ret2
  rw[H1.out,H2.out]
  exact⟨_,rfl,h1,hE⟩
 ·have H1:Hid (rootE k=1):=Lib.hid (if_neg hk)
  have H2:Hid (powV A k=0):=Lib.hid (if_neg hk)
  by_cases hk1:k < 1
  ·clear hk
   go_enter Tryz.func22,Tryz.ntmps22
   go_wp2
   go_ret2
   exact⟨_,by rw[H1.out];rfl,by rw[H2.out];exact Nw.nil _,Ext.refl _⟩
  ·have hk2:16 < k:=by omega
   clear hk
   go_enter Tryz.func22,Tryz.ntmps22
   go_wp2
   go_ret2
   exact⟨_,by rw[H1.out];rfl,by rw[H2.out];exact Nw.nil _,Ext.refl _⟩
set_option maxHeartbeats 2000000 in
theorem Tryz.refRoot {v:Value} {A L:Nat} {w:World} (h:Nw w v A) (s:Sm L A) (hL:L≤300) (k:Int):
  Calls Tryz.prog 24 #[v,.int .i64 k] w fun e w'=>∃ v',e=.returned (.tuple #[v',.int .i64 (rootE k)])∧Nw w' v' (rootV A k)∧Ext w w':=by
 have b1:1 < B64:=by rw[B64_eq];omega
 by_cases hk:1≤k∧k≤16
 ·have H1:Hid (rootE k=0):=Lib.hid (if_pos hk)
  have H2:Hid (rootV A k=rt A k.toNat):=Lib.hid (if_pos hk)
  obtain⟨hk1,hk2⟩:=hk
  have hk3:¬ k < 1:=by omega
  have hk4:¬ 16 < k:=by omega
  obtain⟨m,rfl⟩:=Int.eq_ofNat_of_zero_le (show 0≤k by omega)
  rw[show ((m:Int)).toNat=m from rfl]at H2
  have hm1:1≤m:=by omega
  have hm2:m≤16:=by omega
  have hbl:=bl_sm s
  obtain⟨b,hb⟩:∃ b,b=bl A:=⟨_,rfl⟩
  obtain⟨d,hdd⟩:∃ d,d=b / m:=⟨_,rfl⟩
  have hdL:d≤64*L:=by rw[hdd];exact Nat.le_trans (Nat.div_le_self _ _) (by omega)
  have hdl:d≤19200:=by rw[hdd];exact Nat.le_trans (Nat.div_le_self _ _) (by omega)
  have hd:((b:Int)).tdiv (m:Int)=(d:Int):=by rw[Int.tdiv_eq_ediv_of_nonneg (by omega),hdd];rfl
  have hd2:((b:Int)) / (m:Int)=(d:Int):=by rw[hdd];rfl
  have hw1:IntKind.i64.wrap ((d:Int))=(d:Int):=IntWalk.i64_in _ (by omega)
  have hd3:IntKind.i64.wrap (((b:Int)).tdiv (m:Int))=(d:Int):=by rw[hd];exact hw1
  have hm0:((m:Int)==0)=false:=beq_eq_false_iff_ne.2 (by omega)
  have hm0a:¬ ((m:Int)=0):=by omega
  have hm0b:¬ (m=0):=by omega
  have hst:=bitroot_start (a:=A) hm1
  rw[← hb,← hdd]at hst
  have HST:=Lib.hid hst
  have hbits:∀ W,Ext w W→Calls Tryz.prog 52 #[v] W fun e w'=>e=.returned (.int .i64 (b:Int))∧W=w':=fun W h'=>by rw[hb];exact Tryz.refBits (h.ext h') s (by omega)
  have HBI:=Lib.hid hbits
  clear hb hdd hbl hst hbits
  go_enter Tryz.func24,Tryz.ntmps24
  go_wp2_with fail
  refine(HBI.out _ (Ext.alloc1 _ _)).mono ?_
  rintro e w' ⟨rfl,rfl⟩
  have hO:=Nt.nil0 w 61
  clear HBI
  go_wp2_with fail
  go_loopw [6,7,8,9,10] (fun o i _ _ _ wr=>∃ (j O:Nat),i=.int .i64 ((j:Int) - 1)∧j≤d+1∧Nw wr o O∧Hid (O^m≤A∧A < (O+2^j)^m)∧Ext w wr) (fun _ i _ _ _ _=>(intOf i+1).toNat)
  case atStart=>exact⟨d+1,0,congrArg (Value.int .i64) (by omega),by omega,hO,HST,Ext.alloc1 _ _⟩
  case round=>
   obtain⟨j,O,rfl,hj,ho,hI,hE⟩:=hrel
   clear hO HST
   have sO:Sm L O:=by
    refine s.le ?_
    have h1:=hI.out.1
    have h2:O^1≤O^m∨O=0:=by
     rcases Nat.eq_zero_or_pos O with h0 | h0
     ·exact .inr h0
     ·exact .inl (Nat.pow_le_pow_right h0 hm1)
    rw[Nat.pow_one]at h2
    omega
   rcases Nat.eq_zero_or_pos j with rfl | hjp
   ·have HX:Hid (O=rootV A (m:Int)):=Lib.hid (by
     rw[H2.out]
     have h1:=hI.out
     rw[Nat.pow_zero]at h1
     exact(rt_eq hm1 h1).symm)
    have e0:(((0:Nat):Int) - 1) = -1:=by omega
    rw[e0]
    clear hI e0
    go_wp2
    go_ret2
    rw[H1.out,← HX.out]
    exact⟨_,rfl,ho,hE⟩
   ·obtain⟨i,rfl⟩:∃ i,j=i+1:=⟨j - 1,by omega⟩
    have e0:(((i+1:Nat):Int) - 1)=(i:Int):=by omega
    rw[e0]
    have hi0:(0:Int)≤(i:Int):=by omega
    have G1:Hid (shE (i:Int)=0):=Lib.hid (if_neg (by omega))
    have G2:Hid (shlV 1 (i:Int)=2^i):=Lib.hid (by unfold shlV;rw[if_neg (by omega),Nat.one_mul];rfl)
    have sp:Sm (L+1) (2^i):=(Sm.pow2 i).mono (show i / 64+1≤L+1 by omega)
    have sm:Sm (L+2) (O+2^i):=(sO.mono (by omega)).add sp
    obtain⟨g1,g2⟩:=bitroot_step hI.out.1 hI.out.2
    have G3:=Lib.hid g1
    have G4:=Lib.hid g2
    have hmm:(L+2)*m≤(L+2)*16:=Nat.mul_le_mul_left _ hm2
    clear e0 hI g1 g2
    go_wp2_with fail
    refine(Tryz.refOf 1 _ b1).mono ?_
    rintro e w1 ⟨v1,rfl,h1,hE1,-⟩
    go_wp2_with fail
    refine(Tryz.refShl h1 (Sm.one b1) (by omega) (i:Int)).mono ?_
    rintro e w2 ⟨v2,rfl,h2,hE2,-⟩
    rw[G2.out]at h2
    go_wp2_with fail
    refine(Tryz.refAdd ((ho.ext hE1).ext hE2) h2 (sO.mono (show L≤L+1 by omega)) sp (by omega)).mono ?_
    rintro e w3 ⟨v3,rfl,h3,hE3,-⟩
    go_wp2_with fail
    refine(Tryz.refPower h3 sm m (by omega) (by omega)).mono ?_
    rintro e w4 ⟨v4,rfl,h4,hE4⟩
    have E4:=(((hE.trans hE1).trans hE2).trans hE3).trans hE4
    go_wp2_with fail
    refine(Tryz.refCmp h4 (h.ext E4)).mono ?_
    rintro e w5 ⟨rfl,hE5⟩
    have E5:=E4.trans hE5
    by_cases hc:(O+2^i)^m≤A
    ·have hc0:cmpI (((O+2^i)^m:Nat):Int) (A:Int)≤0:=by
      rcases Nat.lt_or_ge ((O+2^i)^m) A with h | h
      ·rw[cmpI_nat_lt h];omega
      ·rw[cmpI_nat_eq (by omega)];omega
     have h5:=(h3.ext hE4).ext hE5
     have HI:Hid ((O+2^i)^m≤A∧A < (O+2^i+2^i)^m):=Lib.hid (G3.out hc)
     obtain⟨c,hcc⟩:∃ c,c=cmpI (((O+2^i)^m:Nat):Int) (A:Int):=⟨_,rfl⟩
     rw[← hcc]at hc0 ⊢
     clear hc hcc hE1 hE2 hE3 hE4 hE5 E4
     go_wp2
     go_roundw
     case rel=>exact⟨i,O+2^i,rfl,by omega,h5,HI,E5⟩
     case measure=>simp[intOf]
    ·have hc0:¬ (cmpI (((O+2^i)^m:Nat):Int) (A:Int)≤0):=by
      rw[cmpI_nat_gt (by omega)];omega
     have h5:=((((ho.ext hE1).ext hE2).ext hE3).ext hE4).ext hE5
     have HI:Hid (O^m≤A∧A < (O+2^i)^m):=Lib.hid (G4.out hc)
     obtain⟨c,hcc⟩:∃ c,c=cmpI (((O+2^i)^m:Nat):Int) (A:Int):=⟨_,rfl⟩
     rw[← hcc]at hc0 ⊢
     clear hc hcc hE1 hE2 hE3 hE4 hE5 E4
     go_wp2
     go_roundw
     case rel=>exact⟨i,O,rfl,by omega,h5,HI,E5⟩
     case measure=>simp[intOf]
 ·have H1:Hid (rootE k=1):=Lib.hid (if_neg hk)
  have H2:Hid (rootV A k=0):=Lib.hid (if_neg hk)
  by_cases hk1:k < 1
  ·clear hk
   go_enter Tryz.func24,Tryz.ntmps24
   go_wp2
   go_ret2
   exact⟨_,by rw[H1.out];rfl,by rw[H2.out];exact Nw.nil _,Ext.refl _⟩
  ·have hk2:16 < k:=by omega
   clear hk
   go_enter Tryz.func24,Tryz.ntmps24
   go_wp2
   go_ret2
   exact⟨_,by rw[H1.out];rfl,by rw[H2.out];exact Nw.nil _,Ext.refl _⟩
end Go.Rt
