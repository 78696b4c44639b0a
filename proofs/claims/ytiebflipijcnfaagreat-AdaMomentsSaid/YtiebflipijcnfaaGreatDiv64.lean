/-
 math/bits.Div64.
-/
import Derived.Test.YtiebflipijcnfaaGreatBits
import Derived.Test.YtiebflipijcnfaaGreatMathD
import Derived.Deep.CutBlock
import Derived.Deep.DeepCutAuto
namespace Go.Rt
open Go.RowKit Go.Proofs
theorem w_back {a b d Y R:Nat} (h:a*B32+d=b*Y+R) (hR:R < B64):
  IntKind.u64.wrap (IntKind.u64.wrap (IntKind.u64.wrap ((a:Int)*4294967296)+(d:Int)) - IntKind.u64.wrap ((b:Int)*(Y:Int)))=(R:Int):=by
 have hI:(a:Int)*4294967296+(d:Int)=(b:Int)*(Y:Int)+(R:Int):=by
  have:=congrArg (fun n:Nat=>(n:Int)) h
  simp only[Int.natCast_add,Int.natCast_mul]at this
  exact this
 rw[B64_eq]at hR
 simp only[IntKind.wrap_u64]
 generalize (b:Int)*(Y:Int)=p at *
 omega
theorem w_div {a b:Nat} (ha:a < B64):IntKind.u64.wrap ((a:Int).tdiv (b:Int))=((a / b:Nat):Int):=by
 have:(a:Int).tdiv (b:Int)=((a / b:Nat):Int):=rfl
 have h2:=Nat.div_le_self a b
 rw[this,IntKind.wrap_u64]
 rw[B64_eq]at ha
 generalize a / b=z at *
 omega
theorem w_rem {a b q r:Nat} (h:q*b+r=a) (ha:a < B64):IntKind.u64.wrap ((a:Int) - IntKind.u64.wrap ((q:Int)*(b:Int)))=(r:Int):=by
 have hI:(q:Int)*(b:Int)+(r:Int)=(a:Int):=by
  have:((q*b+r:Nat):Int)=((a:Nat):Int):=by rw[h]
  simpa using this
 rw[B64_eq]at ha
 simp only[IntKind.wrap_u64]
 generalize (q:Int)*(b:Int)=p at *
 omega
theorem w_mask (x:Nat) (hx:x < B64):bits .and .u64 (x:Int) 4294967295=((x % B32:Nat):Int):=by
 have:=bits_and_u64_nat x 4294967295 (by rw[B64_eq]at hx;exact hx) (by decide)
 rw[show ((4294967295:Nat):Int)=4294967295 from rfl]at this
 rw[this,show (4294967295:Nat)=2^32 - 1 from rfl,Nat.and_two_pow_sub_one_eq_mod]
 rfl
theorem w_lt32 {a b:Nat} (ha:a < B32) (hb:b < B32):a*b < B64:=by
 have h1:a*b≤B32*b:=Nat.mul_le_mul_right _ (Nat.le_of_lt ha)
 have h2:B32*b < B32*B32:=Nat.mul_lt_mul_of_pos_left hb (by decide)
 exact Nat.lt_of_le_of_lt h1 h2
theorem start_fig {hi lo y s:Nat} (h:hi < y) (hlo:lo < B64) (hy:y < B64) (hs:s=64 - bl y):
  y*2^s < B64∧B32≤2*(y*2^s / B32)∧hi*2^s < B64∧lo / 2^(64 - s) < 2^s∧hi*2^s+lo / 2^(64 - s) < y*2^s ∧
  (hi*2^s+lo / 2^(64 - s))*B64+lo*2^s % B64=(hi*B64+lo)*2^s∧s≤63:=by
 have hy0:y≠0:=by omega
 have hb:bl y≤64:=(bl_le_iff _ _).2 (by rw[B64_two]at hy;exact hy)
 obtain⟨g1,g2⟩:=bl_ge hy0
 have g3:=bl_lt y
 have hs63:s≤63:=by omega
 have e1:2^bl y*2^s=B64:=by rw[← Nat.pow_add,B64_two];congr 1;omega
 have e2:2^(bl y - 1)*2^s=2^63:=by rw[← Nat.pow_add];congr 1;omega
 have e3:2^(64 - s)*2^s=B64:=by rw[← Nat.pow_add,B64_two];congr 1;omega
 have hp:=Nat.two_pow_pos s
 have hp2:=Nat.two_pow_pos (64 - s)
 have a1:y*2^s < B64:=by rw[← e1];exact Nat.mul_lt_mul_of_pos_right g3 hp
 have a2:2^63≤y*2^s:=by rw[← e2];exact Nat.mul_le_mul_right _ g1
 have a3:lo / 2^(64 - s) < 2^s:=by rw[Nat.div_lt_iff_lt_mul hp2,Nat.mul_comm,e3];exact hlo
 have a4:(hi+1)*2^s≤y*2^s:=Nat.mul_le_mul_right _ h
 rw[Nat.add_mul,Nat.one_mul]at a4
 have a5:lo / 2^(64 - s)*B64+lo*2^s % B64=lo*2^s:=by
  have h1:=Nat.div_add_mod (lo*2^s) B64
  have h2:lo*2^s / B64=lo / 2^(64 - s):=by rw[← e3];exact Nat.mul_div_mul_right _ _ hp
  rw[h2,Nat.mul_comm]at h1
  exact h1
 refine⟨a1,?_,by omega,a3,by omega,?_,hs63⟩
 ·have h63:(2:Nat)^63=9223372036854775808:=rfl
  have h32:B32=4294967296:=rfl
  rw[h63]at a2
  rw[h32]
  clear a1 a4 a5 a3 e1 e2 e3
  generalize y*2^s=Y at *
  omega
 ·rw[Nat.add_mul,Nat.add_mul,Nat.add_assoc,a5,Nat.mul_assoc,Nat.mul_assoc,Nat.mul_comm (2^s) B64]
theorem w_or_add {a b s:Nat} (hs:s≤63) (ha:a*2^s < B64) (hb:b < 2^s):bits .or .u64 (IntKind.u64.wrap ((a:Int)*2^s)) (b:Int)=((a*2^s+b:Nat):Int):=by
 have e3:2^(64 - s)*2^s=B64:=by rw[← Nat.pow_add,B64_two];congr 1;omega
 have hx:a < 2^(64 - s):=by
  rw[← e3]at ha
  exact Nat.lt_of_mul_lt_mul_right ha
 have:=w_shl_or (x:=a) (c:=b) (b:=s) hb (by omega) (by rw[Nat.mod_eq_of_lt ha,Nat.mod_eq_of_lt hx])
 rw[this,Nat.mod_eq_of_lt ha]
set_option maxRecDepth 100000 in
set_option maxHeartbeats 4000000 in
theorem Tryz.div64 {hi lo y:Nat} (h:hi < y) (hlo:lo < B64) (hy:y < B64) (w:World):
  Calls Tryz.prog 101 #[.int .u64 (hi:Int),.int .u64 (lo:Int),.int .u64 (y:Int)] w fun e w'=>
   (∃ k,w'=w.drewN k)∧e=.returned (.tuple #[.int .u64 (((hi*B64+lo) / y:Nat):Int),.int .u64 (((hi*B64+lo) % y:Nat):Int)]):=by
 have hlt:(hi:Int) < (y:Int):=by omega
 have hyp:(0:Int) < (y:Int):=by omega
 by_cases hz:hi=0
 ·subst hz
  go_enter Tryz.func101,Tryz.ntmps101
  go_wp2
  go_quiet (fail)
  go_wp2
  go_ret2
  refine⟨⟨_,rfl⟩,?_⟩
  show Ending.returned (.tuple #[.int .u64 (IntKind.u64.wrap ((lo:Int) / (y:Int))),.int .u64 ((lo:Int) % (y:Int))])=_
  have f1:=w_div (b:=y) hlo
  rw[show (lo:Int).tdiv (y:Int)=(lo:Int) / (y:Int) from Int.tdiv_eq_ediv_of_nonneg (by omega)]at f1
  rw[f1,Nat.zero_mul,Nat.zero_add]
  rfl
 ·have hzI:(0:Int) < (hi:Int):=by omega
  obtain⟨s,hs⟩:∃ s,s=64 - bl y:=⟨_,rfl⟩
  have hld:∀ W,Calls Tryz.prog 74 #[.int .u64 (y:Int)] W fun e w'=>W=w'∧e=.returned (.int .i64 (s:Int)):=fun W=>by rw[hs];exact Tryz.leading y W hy
  obtain⟨g1,g2,g3,g4,g5,g6,g7⟩:=start_fig h hlo hy hs
  have hF:=dg_shift (N:=hi*B64+lo) (y:=y) s
  obtain⟨Y,hY⟩:∃ Y,Y=y*2^s:=⟨_,rfl⟩
  obtain⟨un,hun⟩:∃ un,un=hi*2^s+lo / 2^(64 - s):=⟨_,rfl⟩
  obtain⟨L1,hL1⟩:∃ L1,L1=lo*2^s % B64:=⟨_,rfl⟩
  have E1:IntKind.u64.wrap ((y:Int)*2^s)=(Y:Int):=by rw[w_shl,Nat.mod_eq_of_lt g1,hY]
  have E4:bits .or .u64 (IntKind.u64.wrap ((hi:Int)*2^s)) ((lo:Int) / 2^(64 - s))=(un:Int):=by rw[w_shr,w_or_add g7 g3 g4,hun]
  have E5:IntKind.u64.wrap ((lo:Int)*2^s)=(L1:Int):=by rw[w_shl,hL1]
  rw[← hY]at g1 g2 g5 hF
  rw[← hun]at g5 g6
  rw[← hL1]at g6
  rw[← g6]at hF
  have hL1b:L1 < B64:=by rw[hL1];exact Nat.mod_lt _ B64_pos
  have hunb:un < B64:=by omega
  have hsI:(s:Int)≤63:=by omega
  have hsI0:(0:Int)≤s:=by omega
  clear hs hY hun hL1 g3 g4 g6
  obtain⟨y1,hy1⟩:∃ y1,y1=Y / B32:=⟨_,rfl⟩
  obtain⟨y0,hy0⟩:∃ y0,y0=Y % B32:=⟨_,rfl⟩
  obtain⟨d1,hd1⟩:∃ d1,d1=L1 / B32:=⟨_,rfl⟩
  obtain⟨d0,hd0⟩:∃ d0,d0=L1 % B32:=⟨_,rfl⟩
  have E2:bits .and .u64 (Y:Int) 4294967295=(y0:Int):=by rw[w_mask _ g1,hy0]
  have E3:(Y:Int) / 4294967296=(y1:Int):=by rw[hy1];rfl
  have E6:bits .and .u64 (L1:Int) 4294967295=(d0:Int):=by rw[w_mask _ hL1b,hd0]
  have E7:(L1:Int) / 4294967296=(d1:Int):=by rw[hd1];rfl
  have hYe:Y=y1*B32+y0:=by rw[hy1,hy0];exact(Nat.div_add_mod' Y B32).symm
  have hLe:L1=d1*B32+d0:=by rw[hd1,hd0];exact(Nat.div_add_mod' L1 B32).symm
  have hy0b:y0 < B32:=by rw[hy0];exact Nat.mod_lt _ (by decide)
  have hd0b:d0 < B32:=by rw[hd0];exact Nat.mod_lt _ (by decide)
  have hd1b:d1 < B32:=by rw[hd1,Nat.div_lt_iff_lt_mul (by decide)];exact hL1b
  have hy1b:y1 < B32:=by rw[hy1,Nat.div_lt_iff_lt_mul (by decide)];exact g1
  rw[← hy1]at g2
  have hB32:B32=4294967296:=rfl
  have hy1p:0 < y1:=by omega
  have hYp:0 < Y:=by omega
  have hy1I:(0:Int) < (y1:Int):=by omega
  clear hy1 hy0 hd1 hd0
  obtain⟨q0,hq0⟩:∃ q0,q0=un / y1:=⟨_,rfl⟩
  obtain⟨r0,hr0⟩:∃ r0,r0=un % y1:=⟨_,rfl⟩
  have hqr:q0*y1+r0=un:=by have:=Nat.div_add_mod un y1;rw[Nat.mul_comm]at this;rw[hq0,hr0];exact this
  have E8:IntKind.u64.wrap ((un:Int) / (y1:Int))=(q0:Int):=by have:=w_div (b:=y1) hunb;rw[Int.tdiv_eq_ediv_of_nonneg (by omega)]at this;rw[this,hq0]
  have E9:IntKind.u64.wrap ((un:Int) - IntKind.u64.wrap ((q0:Int)*(y1:Int)))=(r0:Int):=w_rem hqr hunb
  have hr0b:r0 < B32:=by rw[hr0];exact Nat.lt_trans (Nat.mod_lt _ hy1p) hy1b
  have hq0b:q0≤B32+1:=by rw[hq0];exact dg_top hy1p g2 hy0b (by omega)
  have hq0s:dg y1 y0 un d1≤q0:=by rw[hq0];exact dg_start hy1p hd1b
  have HYE:=Lib.hid hYe
  have HLE:=Lib.hid hLe
  have HQR:=Lib.hid hqr
  have HB:=Lib.hid hB32
  have HF:=Lib.hid hF
  clear hq0 hr0 hYe hLe hqr hB32 hF
  go_enter Tryz.func101,Tryz.ntmps101
  have hun0:un < Y:=by omega
  have HUN1:=Lib.hid hun0
  have HQ1:=Lib.hid hq0b
  have HR1:=Lib.hid hr0b
  have HS1:=Lib.hid hq0s
  have HE1:=HQR
  go_upto_block 0 with (go_at_call 74;refine(hld _).mono ?_;rintro e w' ⟨rfl,rfl⟩)
  clear E1 E2 E3 E4 E5 E6 E7 E8 E9 hld
  go_cut [15,16] from 67 to 85 (fun q _ wx=>w=wx∧q=.int .u64 ((dg y1 y0 un d1:Nat):Int))
  case first=>
   go_wp2_with fail
   go_loop [15,16] (fun q r=>∃ (qq rr:Nat),q=.int .u64 (qq:Int)∧r=.int .u64 (rr:Int)∧Hid (qq≤B32+1)∧Hid (rr < B32)∧Hid (dg y1 y0 un d1≤qq)∧Hid (qq*y1+rr=un)) (fun q _=>(intOf q).toNat)
   case atStart=>exact⟨_,_,rfl,rfl,HQ1,HR1,HS1,HE1⟩
   case round=>
    obtain⟨qq,rr,rfl,rfl,Hqb,Hrb,Hqs,hqr⟩:=hrel
    have hqb:=Hqb.out
    have hrb:=Hrb.out
    have hqs:=Hqs.out
    have hB32:=HB.out
    have hYp':0 < y1*B32+y0:=by have:=Nat.mul_pos hy1p (show 0 < B32 by decide);omega
    by_cases hcond:B32≤qq∨(qq < B32∧B32*rr+d1 < qq*y0)
    ·have hover:dg y1 y0 un d1 < qq:=by
      rcases hcond with hc | ⟨_,hc⟩
      ·exact Nat.lt_of_lt_of_le (dg_lt hYp' (by rw[← HYE.out];exact HUN1.out) (by omega)) hc
      ·exact dg_over hYp' hqr.out hc
     have hstep:(qq - 1)*y1+(rr+y1)=un:=by
      rw[← hqr.out]
      obtain⟨p,rfl⟩:∃ p,qq=p+1:=⟨qq - 1,by omega⟩
      rw[Nat.add_sub_cancel,Nat.add_mul];omega
     have f1:IntKind.u64.wrap ((qq:Int) - 1)=((qq - 1:Nat):Int):=by rw[IntKind.wrap_u64];omega
     have f2:IntKind.u64.wrap ((rr:Int)+(y1:Int))=((rr+y1:Nat):Int):=by rw[IntKind.wrap_u64];omega
     have HST:=Lib.hid hstep
     have HC:=Lib.hid hcond
     by_cases hbr:B32≤rr+y1
     ·have hfin:qq - 1=dg y1 y0 un d1:=by
       have:=dg_break (d:=d1) hYp' hy0b hstep (by omega) hbr
       omega
      have hbrI:(4294967296:Int)≤((rr+y1:Nat):Int):=by omega
      have HFI:=Lib.hid hfin
      clear hstep hcond hfin
      obtain⟨ra,hra⟩:∃ ra,ra=rr+y1:=⟨_,rfl⟩
      obtain⟨qa,hqa⟩:∃ qa,qa=qq - 1:=⟨_,rfl⟩
      rw[← hra]at f2 hbrI
      rw[← hqa]at f1 HFI
      clear hra hqa hover
      rcases HC.out with hc | ⟨hsm,hc⟩
      ·have hcI:(4294967296:Int)≤(qq:Int):=by omega
       go_wp2
       go_meet
       exact⟨rfl,by rw[HFI.out]⟩
      ·have hcI:¬ ((4294967296:Int)≤(qq:Int)):=by omega
       have b5:((B32*rr+d1:Nat):Int) < ((qq*y0:Nat):Int):=by omega
       have b1:qq*y0 < B64:=w_lt32 hsm (by omega)
       have b2:IntKind.u64.wrap ((qq:Int)*(y0:Int))=((qq*y0:Nat):Int):=by rw[← Int.natCast_mul,IntKind.wrap_u64];rw[B64_eq]at b1;omega
       have b3:IntKind.u64.wrap (4294967296*(rr:Int))=((B32*rr:Nat):Int):=by rw[IntKind.wrap_u64,hB32];omega
       have b4:IntKind.u64.wrap (((B32*rr:Nat):Int)+(d1:Int))=((B32*rr+d1:Nat):Int):=by rw[IntKind.wrap_u64,hB32];omega
       obtain⟨z1,hz1⟩:∃ z1,z1=qq*y0:=⟨_,rfl⟩
       obtain⟨z2,hz2⟩:∃ z2,z2=B32*rr:=⟨_,rfl⟩
       obtain⟨z3,hz3⟩:∃ z3,z3=z2+d1:=⟨_,rfl⟩
       rw[← hz2]at b3 b4 b5
       rw[← hz3]at b4 b5
       rw[← hz1]at b2 b5
       clear hz1 hz2 hz3 hc b1
       go_wp2
       go_meet
       exact⟨rfl,by rw[HFI.out]⟩
     ·have hbrI:¬ ((4294967296:Int)≤((rr+y1:Nat):Int)):=by omega
      have h1:dg y1 y0 un d1≤qq - 1:=by omega
      have h2:qq - 1≤B32+1:=by omega
      have h3:rr+y1 < B32:=by omega
      have h4:qq - 1 < qq:=by omega
      clear hstep hcond hbr
      obtain⟨ra,hra⟩:∃ ra,ra=rr+y1:=⟨_,rfl⟩
      obtain⟨qa,hqa⟩:∃ qa,qa=qq - 1:=⟨_,rfl⟩
      rw[← hra]at f2 hbrI HST h3
      rw[← hqa]at f1 HST h1 h2 h4
      clear hra hqa hover
      have H1:=Lib.hid h1;have H2:=Lib.hid h2;have H3:=Lib.hid h3
      clear h1 h2 h3
      rcases HC.out with hc | ⟨hsm,hc⟩
      ·have hcI:(4294967296:Int)≤(qq:Int):=by omega
       go_wp2
       go_round
       case measure=>simp[intOf];omega
       case rel=>exact⟨_,_,rfl,rfl,H2,H3,H1,HST⟩
      ·have hcI:¬ ((4294967296:Int)≤(qq:Int)):=by omega
       have b5:((B32*rr+d1:Nat):Int) < ((qq*y0:Nat):Int):=by omega
       have b1:qq*y0 < B64:=w_lt32 hsm (by omega)
       have b2:IntKind.u64.wrap ((qq:Int)*(y0:Int))=((qq*y0:Nat):Int):=by rw[← Int.natCast_mul,IntKind.wrap_u64];rw[B64_eq]at b1;omega
       have b3:IntKind.u64.wrap (4294967296*(rr:Int))=((B32*rr:Nat):Int):=by rw[IntKind.wrap_u64,hB32];omega
       have b4:IntKind.u64.wrap (((B32*rr:Nat):Int)+(d1:Int))=((B32*rr+d1:Nat):Int):=by rw[IntKind.wrap_u64,hB32];omega
       obtain⟨z1,hz1⟩:∃ z1,z1=qq*y0:=⟨_,rfl⟩
       obtain⟨z2,hz2⟩:∃ z2,z2=B32*rr:=⟨_,rfl⟩
       obtain⟨z3,hz3⟩:∃ z3,z3=z2+d1:=⟨_,rfl⟩
       rw[← hz2]at b3 b4 b5
       rw[← hz3]at b4 b5
       rw[← hz1]at b2 b5
       clear hz1 hz2 hz3 hc b1
       go_wp2
       go_round
       case measure=>simp[intOf];omega
       case rel=>exact⟨_,_,rfl,rfl,H2,H3,H1,HST⟩
    ·have hsm:qq < B32:=by omega
     have hc:qq*y0≤B32*rr+d1:=by
      rcases Nat.lt_or_ge (B32*rr+d1) (qq*y0)with h' | h'
      ·exact absurd (.inr ⟨hsm,h'⟩) hcond
      ·exact h'
     have hfin:qq=dg y1 y0 un d1:=by
      have:=dg_done (d:=d1) hYp' hqr.out hc
      omega
     have HFI:=Lib.hid hfin
     have hcI:¬ ((4294967296:Int)≤(qq:Int)):=by omega
     have b5:¬ (((B32*rr+d1:Nat):Int) < ((qq*y0:Nat):Int)):=by omega
     clear hfin hcond hqs
     have b1:qq*y0 < B64:=w_lt32 hsm (by omega)
     have b2:IntKind.u64.wrap ((qq:Int)*(y0:Int))=((qq*y0:Nat):Int):=by rw[← Int.natCast_mul,IntKind.wrap_u64];rw[B64_eq]at b1;omega
     have b3:IntKind.u64.wrap (4294967296*(rr:Int))=((B32*rr:Nat):Int):=by rw[IntKind.wrap_u64,hB32];omega
     have b4:IntKind.u64.wrap (((B32*rr:Nat):Int)+(d1:Int))=((B32*rr+d1:Nat):Int):=by rw[IntKind.wrap_u64,hB32];omega
     obtain⟨z1,hz1⟩:∃ z1,z1=qq*y0:=⟨_,rfl⟩
     obtain⟨z2,hz2⟩:∃ z2,z2=B32*rr:=⟨_,rfl⟩
     obtain⟨z3,hz3⟩:∃ z3,z3=z2+d1:=⟨_,rfl⟩
     rw[← hz2]at b3 b4 b5
     rw[← hz3]at b4 b5
     rw[← hz1]at b2 b5
     clear hz1 hz2 hz3 hc b1
     go_wp2
     go_meet
     exact⟨rfl,by rw[← HFI.out]⟩
  case rest=>
   obtain⟨rfl,rfl⟩:=hcut
   clear HQ1 HR1 HS1 HE1 HQR hq0b hr0b hq0s
   obtain⟨Q1,hQ1⟩:∃ Q1,Q1=dg y1 y0 un d1:=⟨_,rfl⟩
   obtain⟨R1,hR1⟩:∃ R1,R1=(un*B32+d1) % Y:=⟨_,rfl⟩
   have hR1b:R1 < Y:=by rw[hR1];exact Nat.mod_lt _ hYp
   have e1:un*B32+d1=Q1*Y+R1:=by rw[hQ1,hR1,HYE.out];exact dg_rest
   have F1:=w_back e1 (Nat.lt_trans hR1b g1)
   obtain⟨q2,hq2⟩:∃ q0,q0=R1 / y1:=⟨_,rfl⟩
   obtain⟨r2,hr2⟩:∃ r0,r0=R1 % y1:=⟨_,rfl⟩
   have hqr2:q2*y1+r2=R1:=by have:=Nat.div_add_mod R1 y1;rw[Nat.mul_comm]at this;rw[hq2,hr2];exact this
   have E8:IntKind.u64.wrap ((R1:Int) / (y1:Int))=(q2:Int):=by have:=w_div (b:=y1) (Nat.lt_trans hR1b g1);rw[Int.tdiv_eq_ediv_of_nonneg (by omega)]at this;rw[this,hq2]
   have E9:IntKind.u64.wrap ((R1:Int) - IntKind.u64.wrap ((q2:Int)*(y1:Int)))=(r2:Int):=w_rem hqr2 (Nat.lt_trans hR1b g1)
   have hr0b:r2 < B32:=by rw[hr2];exact Nat.lt_trans (Nat.mod_lt _ hy1p) hy1b
   have hq0b:q2≤B32+1:=by rw[hq2];exact dg_top hy1p g2 hy0b (by rw[← HYE.out];exact hR1b)
   have hq0s:dg y1 y0 R1 d0≤q2:=by rw[hq2];exact dg_start hy1p hd0b
   rw[← hQ1]
   have HUN2:=Lib.hid hR1b
   have HQ2:=Lib.hid hq0b
   have HR2:=Lib.hid hr0b
   have HS2:=Lib.hid hq0s
   have HE2:=Lib.hid hqr2
   have HQ:=Lib.hid hQ1
   have HR:=Lib.hid hR1
   clear hq2 hr2 hqr2 e1 hQ1 hR1 hq0b hr0b hq0s
   go_upto_block 2 with (fail)
   clear F1 E8 E9
   go_cut [18,16] from 102 to 120 (fun q _ wx=>w=wx∧q=.int .u64 ((dg y1 y0 R1 d0:Nat):Int))
   case first=>
    go_wp2_with fail
    go_loop [18,16] (fun q r=>∃ (qq rr:Nat),q=.int .u64 (qq:Int)∧r=.int .u64 (rr:Int)∧Hid (qq≤B32+1)∧Hid (rr < B32)∧Hid (dg y1 y0 R1 d0≤qq)∧Hid (qq*y1+rr=R1)) (fun q _=>(intOf q).toNat)
    case atStart=>exact⟨_,_,rfl,rfl,HQ2,HR2,HS2,HE2⟩
    case round=>
     obtain⟨qq,rr,rfl,rfl,Hqb,Hrb,Hqs,hqr⟩:=hrel
     have hqb:=Hqb.out
     have hrb:=Hrb.out
     have hqs:=Hqs.out
     have hB32:=HB.out
     have hYp':0 < y1*B32+y0:=by have:=Nat.mul_pos hy1p (show 0 < B32 by decide);omega
     by_cases hcond:B32≤qq∨(qq < B32∧B32*rr+d0 < qq*y0)
     ·have hover:dg y1 y0 R1 d0 < qq:=by
       rcases hcond with hc | ⟨_,hc⟩
       ·exact Nat.lt_of_lt_of_le (dg_lt hYp' (by rw[← HYE.out];exact HUN2.out) (by omega)) hc
       ·exact dg_over hYp' hqr.out hc
      have hstep:(qq - 1)*y1+(rr+y1)=R1:=by
       rw[← hqr.out]
       obtain⟨p,rfl⟩:∃ p,qq=p+1:=⟨qq - 1,by omega⟩
       rw[Nat.add_sub_cancel,Nat.add_mul];omega
      have f1:IntKind.u64.wrap ((qq:Int) - 1)=((qq - 1:Nat):Int):=by rw[IntKind.wrap_u64];omega
      have f2:IntKind.u64.wrap ((rr:Int)+(y1:Int))=((rr+y1:Nat):Int):=by rw[IntKind.wrap_u64];omega
      have HST:=Lib.hid hstep
      have HC:=Lib.hid hcond
      by_cases hbr:B32≤rr+y1
      ·have hfin:qq - 1=dg y1 y0 R1 d0:=by
        have:=dg_break (d:=d0) hYp' hy0b hstep (by omega) hbr
        omega
       have hbrI:(4294967296:Int)≤((rr+y1:Nat):Int):=by omega
       have HFI:=Lib.hid hfin
       clear hstep hcond hfin
       obtain⟨ra,hra⟩:∃ ra,ra=rr+y1:=⟨_,rfl⟩
       obtain⟨qa,hqa⟩:∃ qa,qa=qq - 1:=⟨_,rfl⟩
       rw[← hra]at f2 hbrI
       rw[← hqa]at f1 HFI
       clear hra hqa hover
       rcases HC.out with hc | ⟨hsm,hc⟩
       ·have hcI:(4294967296:Int)≤(qq:Int):=by omega
        go_wp2
        go_meet
        exact⟨rfl,by rw[HFI.out]⟩
       ·have hcI:¬ ((4294967296:Int)≤(qq:Int)):=by omega
        have b5:((B32*rr+d0:Nat):Int) < ((qq*y0:Nat):Int):=by omega
        have b1:qq*y0 < B64:=w_lt32 hsm (by omega)
        have b2:IntKind.u64.wrap ((qq:Int)*(y0:Int))=((qq*y0:Nat):Int):=by rw[← Int.natCast_mul,IntKind.wrap_u64];rw[B64_eq]at b1;omega
        have b3:IntKind.u64.wrap (4294967296*(rr:Int))=((B32*rr:Nat):Int):=by rw[IntKind.wrap_u64,hB32];omega
        have b4:IntKind.u64.wrap (((B32*rr:Nat):Int)+(d0:Int))=((B32*rr+d0:Nat):Int):=by rw[IntKind.wrap_u64,hB32];omega
        obtain⟨z1,hz1⟩:∃ z1,z1=qq*y0:=⟨_,rfl⟩
        obtain⟨z2,hz2⟩:∃ z2,z2=B32*rr:=⟨_,rfl⟩
        obtain⟨z3,hz3⟩:∃ z3,z3=z2+d0:=⟨_,rfl⟩
        rw[← hz2]at b3 b4 b5
        rw[← hz3]at b4 b5
        rw[← hz1]at b2 b5
        clear hz1 hz2 hz3 hc b1
        go_wp2
        go_meet
        exact⟨rfl,by rw[HFI.out]⟩
      ·have hbrI:¬ ((4294967296:Int)≤((rr+y1:Nat):Int)):=by omega
       have h1:dg y1 y0 R1 d0≤qq - 1:=by omega
       have h2:qq - 1≤B32+1:=by omega
       have h3:rr+y1 < B32:=by omega
       have h4:qq - 1 < qq:=by omega
       clear hstep hcond hbr
       obtain⟨ra,hra⟩:∃ ra,ra=rr+y1:=⟨_,rfl⟩
       obtain⟨qa,hqa⟩:∃ qa,qa=qq - 1:=⟨_,rfl⟩
       rw[← hra]at f2 hbrI HST h3
       rw[← hqa]at f1 HST h1 h2 h4
       clear hra hqa hover
       have H1:=Lib.hid h1;have H2:=Lib.hid h2;have H3:=Lib.hid h3
       clear h1 h2 h3
       rcases HC.out with hc | ⟨hsm,hc⟩
       ·have hcI:(4294967296:Int)≤(qq:Int):=by omega
        go_wp2
        go_round
        case measure=>simp[intOf];omega
        case rel=>exact⟨_,_,rfl,rfl,H2,H3,H1,HST⟩
       ·have hcI:¬ ((4294967296:Int)≤(qq:Int)):=by omega
        have b5:((B32*rr+d0:Nat):Int) < ((qq*y0:Nat):Int):=by omega
        have b1:qq*y0 < B64:=w_lt32 hsm (by omega)
        have b2:IntKind.u64.wrap ((qq:Int)*(y0:Int))=((qq*y0:Nat):Int):=by rw[← Int.natCast_mul,IntKind.wrap_u64];rw[B64_eq]at b1;omega
        have b3:IntKind.u64.wrap (4294967296*(rr:Int))=((B32*rr:Nat):Int):=by rw[IntKind.wrap_u64,hB32];omega
        have b4:IntKind.u64.wrap (((B32*rr:Nat):Int)+(d0:Int))=((B32*rr+d0:Nat):Int):=by rw[IntKind.wrap_u64,hB32];omega
        obtain⟨z1,hz1⟩:∃ z1,z1=qq*y0:=⟨_,rfl⟩
        obtain⟨z2,hz2⟩:∃ z2,z2=B32*rr:=⟨_,rfl⟩
        obtain⟨z3,hz3⟩:∃ z3,z3=z2+d0:=⟨_,rfl⟩
        rw[← hz2]at b3 b4 b5
        rw[← hz3]at b4 b5
        rw[← hz1]at b2 b5
        clear hz1 hz2 hz3 hc b1
        go_wp2
        go_round
        case measure=>simp[intOf];omega
        case rel=>exact⟨_,_,rfl,rfl,H2,H3,H1,HST⟩
     ·have hsm:qq < B32:=by omega
      have hc:qq*y0≤B32*rr+d0:=by
       rcases Nat.lt_or_ge (B32*rr+d0) (qq*y0)with h' | h'
       ·exact absurd (.inr ⟨hsm,h'⟩) hcond
       ·exact h'
      have hfin:qq=dg y1 y0 R1 d0:=by
       have:=dg_done (d:=d0) hYp' hqr.out hc
       omega
      have HFI:=Lib.hid hfin
      have hcI:¬ ((4294967296:Int)≤(qq:Int)):=by omega
      have b5:¬ (((B32*rr+d0:Nat):Int) < ((qq*y0:Nat):Int)):=by omega
      clear hfin hcond hqs
      have b1:qq*y0 < B64:=w_lt32 hsm (by omega)
      have b2:IntKind.u64.wrap ((qq:Int)*(y0:Int))=((qq*y0:Nat):Int):=by rw[← Int.natCast_mul,IntKind.wrap_u64];rw[B64_eq]at b1;omega
      have b3:IntKind.u64.wrap (4294967296*(rr:Int))=((B32*rr:Nat):Int):=by rw[IntKind.wrap_u64,hB32];omega
      have b4:IntKind.u64.wrap (((B32*rr:Nat):Int)+(d0:Int))=((B32*rr+d0:Nat):Int):=by rw[IntKind.wrap_u64,hB32];omega
      obtain⟨z1,hz1⟩:∃ z1,z1=qq*y0:=⟨_,rfl⟩
      obtain⟨z2,hz2⟩:∃ z2,z2=B32*rr:=⟨_,rfl⟩
      obtain⟨z3,hz3⟩:∃ z3,z3=z2+d0:=⟨_,rfl⟩
      rw[← hz2]at b3 b4 b5
      rw[← hz3]at b4 b5
      rw[← hz1]at b2 b5
      clear hz1 hz2 hz3 hc b1
      go_wp2
      go_meet
      exact⟨rfl,by rw[← HFI.out]⟩
   case rest=>
    obtain⟨rfl,rfl⟩:=hcut
    obtain⟨Q0,hQ0⟩:∃ Q0,Q0=dg y1 y0 R1 d0:=⟨_,rfl⟩
    obtain⟨R0,hR0⟩:∃ R0,R0=(R1*B32+d0) % Y:=⟨_,rfl⟩
    have hR0b:R0 < Y:=by rw[hR0];exact Nat.mod_lt _ hYp
    have e1:R1*B32+d0=Q0*Y+R0:=by rw[hQ0,hR0,HYE.out];exact dg_rest
    have F1:=w_back e1 (Nat.lt_trans hR0b g1)
    obtain⟨hT1,hT2⟩:=dg_two (y:=Y) (un:=un) (a:=d1) (b:=d0) hYp
    have hq1:(un*B32+d1) / Y=Q1:=by rw[HQ.out,HYE.out];rfl
    have hq0:(R1*B32+d0) / Y=Q0:=by rw[hQ0,HYE.out];rfl
    have hy1b':Q1 < B32:=by rw[HQ.out];exact dg_lt (by rw[← HYE.out];exact hYp) (by rw[← HYE.out];exact HUN1.out) hd1b
    have hy0b':Q0 < B32:=by rw[hQ0];exact dg_lt (by rw[← HYE.out];exact hYp) (by rw[← HYE.out];exact HUN2.out) hd0b
    rw[← HR.out,← hR0,← HLE.out]at hT2
    rw[← HR.out,← HLE.out,hq1,hq0,HF.out.1]at hT1
    have G2:(R0:Int) / 2^s=(((hi*B64+lo) % y:Nat):Int):=by rw[w_shr,hT2,HF.out.2]
    have G1:IntKind.u64.wrap (IntKind.u64.wrap ((Q1:Int)*4294967296)+(Q0:Int))=(((hi*B64+lo) / y:Nat):Int):=by
     rw[← hT1,HB.out]
     have hB32:=HB.out
     simp only[IntKind.wrap_u64]
     omega
    rw[← hQ0]
    obtain⟨A1,hA1⟩:∃ A,A=(hi*B64+lo) / y:=⟨_,rfl⟩
    obtain⟨A2,hA2⟩:∃ A,A=(hi*B64+lo) % y:=⟨_,rfl⟩
    have HA1:=Lib.hid hA1
    have HA2:=Lib.hid hA2
    rw[← hA1]at G1
    rw[← hA2]at G2
    clear hq1 hq0 hT1 hT2 e1 hR0 hQ0 hA1 hA2
    go_wp2
    go_ret2
    rw[← HA1.out,← HA2.out]
    exact⟨⟨0,rfl⟩,rfl⟩
end Go.Rt
