/-
  The program's dyads: down, up, a multiple's number; what a grid too fine answers; the reference's likewise.
  The program's dyads: rounding to the nearest of a grid; a number's mantissa.
-/
import Derived.Test.YtiebflipijcnfaaGreatGX
namespace Go.Rt
open Go Go.RowKit Go.Proofs
theorem Zw.nought (W:World):Zw W (.agg #[.bool false,.slice none 0 0]) 0:=⟨false,none,0,0,rfl,Lib.hid rfl,Nw.nil W⟩
end Go.Rt
namespace Go.Rt
open Go Go.RowKit Go.Proofs
theorem bits_odd64 (a:Nat) (ha:a < 18446744073709551616):bits .and .u64 (a:Int) 1=((a % 2:Nat):Int):=by
 have h1:(BitVec.ofInt 64 (a:Int)).toNat=a:=by
  rw[BitVec.ofInt_natCast,BitVec.toNat_ofNat];exact Nat.mod_eq_of_lt (by omega)
 have h2:(BitVec.ofInt 64 (1:Int)).toNat=1:=by decide
 show IntKind.u64.wrap ((BitVec.ofInt 64 (a:Int) &&& BitVec.ofInt 64 (1:Int)).toNat:Int)=_
 rw[BitVec.toNat_and,h1,h2,IntKind.wrap_u64,Nat.and_one_is_mod]
 omega
theorem Nw.lowest {W:World} {a:Option Addr} {n c N:Nat} (h:Nw W (.slice a n c) N) (hn:0 < n):
  ∃ b o l,a=some ⟨b,o,none⟩∧W.cell? ⟨b,o,none⟩=some (.int .u64 ((l:Nat):Int))∧l < B64∧l % 2=N % 2:=by
 obtain⟨xs,⟨a',b,o,cap,e,hs,hl⟩,-,he⟩:=h
 cases e
 obtain rfl:=hs.addr hn
 refine⟨b,o,lg xs 0,rfl,?_,lg_lt hl 0,?_⟩
 ·have:=hs.cell (i:=0) hn
  simpa using this
 ·rw[← he]
  match xs,hn with
  | x :: r,_=>
   show lg (x :: r) 0 % 2=(x+B64*ev B64 r) % 2
   rw[show lg (x :: r) 0=x from rfl,B64_eq]
   omega
theorem Zw.put {W:World} {a:Option Addr} {n c N:Nat} {b:Bool} {z:Int} (h:Nw W (.slice a n c) N) (hb:b=decide (sgn b N < 0)) (e:sgn b N=z):Zw W (.agg #[.bool b,.slice a n c]) z:=e ▸ Zw.mk h hb
def overB (Q R D:Nat):Bool:=decide (D < 2*R∨(2*R=D∧Q % 2=1))
theorem nearN_over (N D:Nat):nearN N D=if overB (N / D) (N % D) D=true then N / D+1 else N / D:=by
 unfold nearN overB
 simp only[decide_eq_true_eq]
set_option maxRecDepth 100000 in
set_option maxHeartbeats 1000000 in
theorem Tryz.dyadNear1 {v1 v2 v3:Value} {Q R D L:Nat} {w:World} (h1:Nw w v1 Q) (h2:Nw w v2 R) (h3:Nw w v3 D) (s2:Sm L R) (hL:L≤100000):
  Calls Tryz.prog 131 #[v1,v2,v3] w fun e w'=>e=.returned (.bool (overB Q R D))∧Ext w w':=by
 obtain⟨W0,hW0⟩:∃ W0,W0=w:=⟨_,rfl⟩
 have E0:Ext w W0:=by rw[hW0];exact Ext.refl w
 replace h1:Nw W0 v1 Q:=h1.ext E0
 replace h2:Nw W0 v2 R:=h2.ext E0
 replace h3:Nw W0 v3 D:=h3.ext E0
 go_enter Tryz.func131,Tryz.ntmps131
 go_wp2_with fail
 rw[← hW0]
 clear hW0
 refine(Tryz.natAdd h2 h2 s2 s2 (by omega)).mono ?_
 rintro e Wa ⟨va,rfl,ha,hE,-⟩
 replace E0:=(Ext.trans E0 hE);replace h1:=(h1.ext hE);replace h2:=(h2.ext hE);replace h3:=(h3.ext hE);clear hE
 go_wp2_with fail
 refine(Tryz.natCmp ha h3).mono ?_
 rintro e Wb ⟨rfl,hE⟩
 replace E0:=(Ext.trans E0 hE);replace h1:=(h1.ext hE);replace h2:=(h2.ext hE);replace h3:=(h3.ext hE);replace ha:=(ha.ext hE);clear hE
 obtain⟨cc,hcc⟩:∃ cc,cc=cmpI ((R+R:Nat):Int) ((D:Nat):Int):=⟨_,rfl⟩
 rw[← hcc]
 have hcs:R+R < D∨D < R+R∨R+R=D:=by omega
 rcases hcs with hlt | hlt | hlt
 ·have HO:Hid (overB Q R D=false):=Lib.hid (decide_eq_false (by omega))
  obtain rfl:cc = -1:=by rw[hcc];exact cmpI_nat_lt hlt
  clear hcc hlt;go_wp2;go_ret
  exact⟨by rw[HO.out];rfl,E0⟩
 ·have HO:Hid (overB Q R D=true):=Lib.hid (decide_eq_true (by omega))
  obtain rfl:cc=1:=by rw[hcc];exact cmpI_nat_gt hlt
  clear hcc hlt;go_wp2;go_ret
  exact⟨by rw[HO.out];rfl,E0⟩
 ·obtain rfl:cc=0:=by rw[hcc];exact cmpI_nat_eq hlt
  clear hcc
  obtain⟨aq,nq,cq,ezq,zq,-⟩:=h1.len
  rw[ezq]at h1 ⊢
  clear ezq
  by_cases hq:0 < nq
  ·obtain⟨B,o,l,rfl,hc,hl,hp⟩:=h1.lowest hq
   have hqI:(0:Int) < (nq:Int):=by omega
   have hR:Hid ((((l % 2:Nat):Int)==1)=overB Q R D):=Lib.hid (by
    unfold overB
    rw[Bool.eq_iff_iff]
    simp
    omega)
   have hb:=bits_odd64 l (by rw[B64_eq]at hl;exact hl)
   clear hp hl zq hlt h1 h2 h3 ha;go_wp2;go_ret
   exact⟨ret_b (by first | exact hR.out | (rw[hb];exact hR.out)),E0⟩
  ·have hqI:¬ (0:Int) < (nq:Int):=by omega
   have HO:Hid (overB Q R D=false):=Lib.hid (decide_eq_false (by have:=zq.1 (by omega);subst this;omega))
   clear zq hlt h1 h2 h3 ha;go_wp2;go_ret
   exact⟨by rw[HO.out];rfl,E0⟩
theorem sgn_lead {M:Nat} {X:Bool} (h:decide (0 < M)=X):sgn X M=sgn true M:=by
 subst h
 rcases Nat.eq_zero_or_pos M with h | h
 ·subst h
  rfl
 ·rw[decide_eq_true h]
set_option maxRecDepth 100000 in
set_option maxHeartbeats 4000000 in
theorem Tryz.dyadRoundN {v1:Value} {x:Rat} {L:Nat} {w:World} (h1:Rw w v1 x) (s1:SmR L x) (hL:L≤20000) (K:Nat) (hK:K≤2000):
  Calls Tryz.prog 130 #[v1,.int .i64 (K:Int),.func (.func 131) #[] #[]] w fun e w'=>∃ v',e=.returned (.tuple #[v',.int .i64 0])∧Zw w' v' (nearR (x*P2 K))∧Ext w w':=by
 obtain⟨b1,a1,n1,c1,d1,m1,o1,rfl,q1⟩:∃ b a n c d m o,v1=.agg #[.bool b,.slice a n c,.slice d m o]∧True:=let ⟨b,a,n,c,d,m,o,e,_⟩:=h1;⟨b,a,n,c,d,m,o,e,trivial⟩
 clear q1
 have B1:Hid (1 < B64):=Lib.hid (by rw[B64_eq];omega)
 have hk0:¬ ((K:Int) < 0):=by omega
 have hk0d:decide ((K:Int) < 0)=false:=decide_eq_false hk0
 have hk1:¬ ((2000:Int) < (K:Int)):=by omega
 have hk1d:decide ((2000:Int) < (K:Int))=false:=decide_eq_false hk1
 obtain⟨N,hN⟩:∃ N,N=x.num.natAbs*2^K:=⟨_,rfl⟩
 obtain⟨D,hD⟩:∃ D,D=x.den:=⟨_,rfl⟩
 have HN:=Lib.hid hN
 have HD:=Lib.hid hD
 have SP:Hid (Sm L x.num.natAbs):=Lib.hid s1.1
 have SN:Hid (Sm (L+33) N):=Lib.hid (by rw[hN];exact(Sm.scale s1 K).mono (by omega))
 have SR:Hid (Sm (L+33) (N % D)):=Lib.hid (SN.out.le (Nat.mod_le _ _))
 have SQ:Hid (Sm (L+33) (N / D)):=Lib.hid (SN.out.le (Nat.div_le_self _ _))
 have HQ0:Hid (D≠0):=Lib.hid (by rw[hD];exact x.den_nz)
 have S1:Hid (Sm (L+33) 1):=Lib.hid ((Sm.one B1.out).mono (by omega))
 have HB:=h1.top.neg
 have HV:Hid (nearR (x*P2 K)=sgn (decide (x.num < 0)) (if overB (N / D) (N % D) D=true then N / D+1 else N / D)):=Lib.hid (by rw[near_sgn,hN,hD,nearN_over])
 rw[HV.out];clear hN hD hk0d hk1d
 obtain⟨W0,hW0⟩:∃ W0,W0=((w.alloc (.cells #[.bool b1,.slice a1 n1 c1,.slice d1 m1 o1] 45)).alloc (.cells #[.bool false,.slice none 0 0] 43)):=⟨_,rfl⟩
 have E0:Ext w W0:=by rw[hW0];exact((Ext.alloc1 w (.cells #[.bool b1,.slice a1 n1 c1,.slice d1 m1 o1] 45)).alloc (.cells #[.bool false,.slice none 0 0] 43))
 replace h1:Rw W0 (.agg #[.bool b1,.slice a1 n1 c1,.slice d1 m1 o1]) x:=h1.ext E0
 have p3:Bx3 W0 w.heap.size 45 (.bool b1) (.slice a1 n1 c1) (.slice d1 m1 o1):=by rw[hW0];exact(Bx3.new w 45 (.bool b1) (.slice a1 n1 c1) (.slice d1 m1 o1)).ext (Ext.alloc1 (w.alloc (.cells #[.bool b1,.slice a1 n1 c1,.slice d1 m1 o1] 45)) (.cells #[.bool false,.slice none 0 0] 43))
 have p6:Bx2 W0 (w.heap.size+1) 43 (.bool false) (.slice none 0 0):=by rw[hW0];simpa using (Bx2.new (w.alloc (.cells #[.bool b1,.slice a1 n1 c1,.slice d1 m1 o1] 45)) 43 (.bool false) (.slice none 0 0))
 go_enter Tryz.func130,Tryz.ntmps130
 obtain⟨kp3_0,kp3_1,kp3_2⟩:=p3.c3
 obtain⟨kp6_0,kp6_1⟩:=p6.c2
 go_wp2_with fail
 rw[← hW0]
 clear hW0;clear kp3_0 kp3_1 kp3_2 kp6_0 kp6_1
 refine(Tryz.divShlK h1.top.num SP.out (by omega) K (by omega)).mono ?_
 rintro e Wa ⟨vu,rfl,hu,hE⟩
 rw[← HN.out]at hu
 replace E0:=(Ext.trans E0 hE);replace h1:=(h1.ext hE);replace p3:=(p3.ext hE);replace p6:=(p6.ext hE);clear hE
 obtain⟨kp3_0,kp3_1,kp3_2⟩:=p3.c3
 obtain⟨kp6_0,kp6_1⟩:=p6.c2
 go_wp2_with fail
 clear kp3_0 kp3_1 kp3_2 kp6_0 kp6_1
 refine(Tryz.divDivModK hu (HD.out ▸ h1.den) SN.out (by omega) HQ0.out).mono ?_
 rintro e Wb ⟨vq,vr,rfl,hq,hr,hE⟩
 replace E0:=(Ext.trans E0 hE);replace h1:=(h1.ext hE);replace p3:=(p3.ext hE);replace p6:=(p6.ext hE);replace hu:=(hu.ext hE);clear hE;clear hu
 obtain⟨aq,nq,cq,ezq,zq,-⟩:=hq.len
 rw[ezq]at hq ⊢
 clear ezq
 obtain⟨ar,nr,cr,ezr,zr,-⟩:=hr.len
 rw[ezr]at hr ⊢
 clear ezr
 by_cases hr0:0 < nr
 ·have hrI:(0:Int) < (nr:Int):=by omega
  clear zr
  obtain⟨kp3_0,kp3_1,kp3_2⟩:=p3.c3
  obtain⟨kp6_0,kp6_1⟩:=p6.c2
  go_wp2_with fail
  clear kp3_0 kp3_1 kp3_2 kp6_0 kp6_1
  refine(Tryz.dyadNear1 hq hr (HD.out ▸ h1.den) SR.out (by omega)).mono ?_
  rintro e Wc ⟨rfl,hE⟩
  replace E0:=(Ext.trans E0 hE);replace h1:=(h1.ext hE);replace p3:=(p3.ext hE);replace p6:=(p6.ext hE);replace hq:=(hq.ext hE);replace hr:=(hr.ext hE);clear hE
  cases hA:overB (N / D) (N % D) D
  ·have HA:=Lib.hid hA
   clear hA
   obtain⟨kp3_0,kp3_1,kp3_2⟩:=p3.c3
   obtain⟨kp6_0,kp6_1⟩:=p6.c2
   go_upto_region 7 with (fail)
   clear kp3_0 kp3_1 kp3_2 kp6_0 kp6_1
   cases b1
   ·have HX:Hid (decide (x.num < 0)=false):=Lib.hid HB.out.symm
    clear zq;have fp6:=p6.form;have ltp3:=p3.lt;have ltfp6:=fp6.lt;have szw1:=Ext.size E0
    refine region_gs [.one fun v _=>v=.pointer (some ⟨w.heap.size,0,none⟩),
      .one fun v _=>v=.pointer (some ⟨w.heap.size,0,none⟩),
      .one fun v _=>v=.bool false,
      .one fun v _=>v=.bool false,
      .one fun v _=>v=undef,
      .one fun v _=>v=undef,
      .one fun v _=>v=undef,
      .one fun v _=>v=.bool false,
      .one fun v _=>v=.slice aq nq cq,
      .one fun v _=>v=.agg #[.bool false,.slice aq nq cq],
      .own fun W=>Bx2 W (w.heap.size+1) 43 (.bool false) (.slice aq nq cq),
      .one fun v _=>v=.int .i64 0]
     (fun W=>Ext w W∧Rw W (.agg #[.bool false,.slice a1 n1 c1,.slice d1 m1 o1]) x∧Bx3 W w.heap.size 45 (.bool false) (.slice a1 n1 c1) (.slice d1 m1 o1)∧Form W (w.heap.size+1) 43 2∧Nw W (.slice aq nq cq) (N / D)∧Nw W (.slice ar nr cr) (N % D)∧Wc.heap.size≤W.heap.size) ⟨Good.is _,Good.is _,Good.is _,Good.is _,Good.is _,Good.is _,Good.is _,Good.is _,Good.is _,Good.is _,cert_bx2,Good.is _,trivial⟩
     ⟨E0,h1,p3,fp6,hq,hr,Nat.le_refl _⟩ (A:=?A1) ?hA1 ?howe1 ?hfin1
    case hA1=>
     intro vs
     simp only[putAll,Act.put,sA,sZ,sS,Nat.zero_add,Nat.reduceAdd]
     exact rfl
    case howe1=>
     clear E0 h1 p3 fp6 hq hr
     intro hf
     refine⟨oE 0 [] hf rfl ?_,oE 1 [0] hf rfl ?_,oE 2 [1] hf rfl ?_,oE 3 [2] hf rfl ?_,oE 4 [3] hf rfl ?_,oE 5 [3] hf rfl ?_,oE 6 [3] hf rfl ?_,oE 7 [3,6] hf rfl ?_,oE 8 [] hf rfl ?_,oE 9 [7,8] hf rfl ?_,oW 10 [9] hf rfl ?_,oE 11 [] hf rfl ?_,trivial⟩
     all_goals intro vs W hS hp hx KO hKO
     all_goals simp only[Act.put,sA,sZ,sS]at hKO
     ·go_simp;exact hKO _ W (.refl W) rfl
     ·have e0:=isOf hp.1;simp only[e0]at hKO;go_simp;exact hKO _ W (.refl W) rfl
     ·have e1:=isOf hp.1;simp only[e1]at hKO;have fc0:=hS.2.2.1.cell0;go_simp;exact hKO _ W (.refl W) rfl
     ·have e2:=isOf hp.1;simp only[e2]at hKO;go_simp;exact hKO _ W (.refl W) rfl
     ·have e3:=isOf hp.1;simp only[e3]at hKO;go_simp;exact hKO _ W (.refl W) rfl
     ·have e3:=isOf hp.1;simp only[e3]at hKO;go_simp;exact hKO _ W (.refl W) rfl
     ·have e3:=isOf hp.1;simp only[e3]at hKO;go_simp;exact hKO _ W (.refl W) rfl
     ·have e3:=isOf hp.1;have e6:=isOf hp.2.1;simp only[e3,e6]at hKO;go_simp;exact hKO _ W (.refl W) rfl
     ·go_simp;exact hKO _ W (.refl W) rfl
     ·have e7:=isOf hp.1;have e8:=isOf hp.2.1;simp only[e7,e8]at hKO;go_simp;exact hKO _ W (.refl W) rfl
     ·have e9:=isOf hp.1;simp only[e9]at hKO
      have hf:=hS.2.2.2.1
      obtain⟨x0_0,x0_1,hx,hno⟩:=hf.bx2
      have r0:=hx.froz0
      have t0:=hx.cell0
      have r1:=hx.froz1
      have t1:=hx.cell1
      have hw:=Wr.set2 hx hno false aq nq cq
      have hq:=hx.set (.bool false) (.slice aq nq cq)
      have hg:(w.heap.size+1)≤(w.heap.size+1):=Nat.le_refl _
      go_simp
      exact hKO _ _ hw ⟨(Ext.wr hS.1 hw (by omega)),(hS.2.1.wr hw),(hS.2.2.1.wr hw (by omega)),(hS.2.2.2.1.wr hw),(hS.2.2.2.2.1.wr hw),(hS.2.2.2.2.2.1.wr hw),(Nat.le_trans hS.2.2.2.2.2.2 hw.apart.size)⟩ hq
     ·go_simp;exact hKO _ W (.refl W) rfl
    intro vs W1 hS hp
    clear szw1 E0 h1 p3 fp6 hq hr
    obtain⟨E0,h1,p3,fp6,hq,hr,sz1⟩:=hS
    obtain⟨h1_0,h1_1,h1_2,h1_3,h1_4,h1_5,h1_6,h1_7,h1_8,h1_9,h1_10,h1_11,-⟩:=hp
    have p1_10:Bx2 W1 (w.heap.size+1) 43 (.bool false) (.slice aq nq cq):=h1_10
    replace h1_0:vs 0=.pointer (some ⟨w.heap.size,0,none⟩):=h1_0
    replace h1_1:vs 1=.pointer (some ⟨w.heap.size,0,none⟩):=h1_1
    replace h1_2:vs 2=.bool false:=h1_2
    replace h1_3:vs 3=.bool false:=h1_3
    replace h1_4:vs 4=undef:=h1_4
    replace h1_5:vs 5=undef:=h1_5
    replace h1_6:vs 6=undef:=h1_6
    replace h1_7:vs 7=.bool false:=h1_7
    replace h1_8:vs 8=.slice aq nq cq:=h1_8
    replace h1_9:vs 9=.agg #[.bool false,.slice aq nq cq]:=h1_9
    replace h1_11:vs 11=.int .i64 0:=h1_11
    simp only[h1_0,h1_1,h1_2,h1_3,h1_4,h1_5,h1_6,h1_7,h1_8,h1_9,h1_11]
    clear h1_0 h1_1 h1_2 h1_3 h1_4 h1_5 h1_6 h1_7 h1_8 h1_9 h1_11
    obtain⟨kp3_0,kp3_1,kp3_2⟩:=p3.c3
    obtain⟨kp1_10_0,kp1_10_1⟩:=p1_10.c2
    simp only[Exit.then]
    refine ‹∀ (a:Act) (w:World),Code.wp _ _ _ a w→_› _ _ ?_
    refine wp_ret ?_
    exact bodyPost_ret (v:=.tuple #[.agg #[.bool false,.slice aq nq cq],.int .i64 0]) (by simp[results,Tryz.results130,go_sem,kp1_10_0,kp1_10_1]) rfl ⟨_,rfl,Zw.put hq (by rw[sgn_neg];rfl) (by rw[HX.out];rw[if_neg (by rw[HA.out];simp)]),E0⟩
   ·have HX:Hid (decide (x.num < 0)=true):=Lib.hid HB.out.symm
    obtain⟨XB,hXB⟩:∃ X,decide (0 < N / D)=X:=⟨_,rfl⟩
    have HXM:=Lib.hid hXB
    have HXN:Hid (decide (0 < nq)=XB):=Lib.hid (by rw[← hXB,Bool.eq_iff_iff,decide_eq_true_iff,decide_eq_true_iff];exact⟨fun h=>Nat.pos_of_ne_zero fun e=>Nat.ne_of_gt h (zq.2 e),fun h=>Nat.pos_of_ne_zero fun e=>Nat.ne_of_gt h (zq.1 e)⟩)
    have HXI:Hid (decide ((0:Int) < (nq:Int))=XB):=Lib.hid (by rw[← HXN.out,Bool.eq_iff_iff,decide_eq_true_iff,decide_eq_true_iff];omega)
    clear zq hXB;have fp6:=p6.form;have ltp3:=p3.lt;have ltfp6:=fp6.lt;have szw2:=Ext.size E0
    refine region_gs [.one fun v _=>v=.pointer (some ⟨w.heap.size,0,none⟩),
      .one fun v _=>v=.pointer (some ⟨w.heap.size,0,none⟩),
      .one fun v _=>v=.bool true,
      .one fun v _=>v=.bool true,
      .one fun v _=>v=.slice aq nq cq,
      .one fun v _=>v=.int .i64 (nq:Int),
      .one fun v _=>v=.bool XB,
      .one fun v _=>v=.bool XB,
      .one fun v _=>v=.slice aq nq cq,
      .one fun v _=>v=.agg #[.bool XB,.slice aq nq cq],
      .own fun W=>Bx2 W (w.heap.size+1) 43 (.bool XB) (.slice aq nq cq),
      .one fun v _=>v=.int .i64 0]
     (fun W=>Ext w W∧Rw W (.agg #[.bool true,.slice a1 n1 c1,.slice d1 m1 o1]) x∧Bx3 W w.heap.size 45 (.bool true) (.slice a1 n1 c1) (.slice d1 m1 o1)∧Form W (w.heap.size+1) 43 2∧Nw W (.slice aq nq cq) (N / D)∧Nw W (.slice ar nr cr) (N % D)∧Wc.heap.size≤W.heap.size) ⟨Good.is _,Good.is _,Good.is _,Good.is _,Good.is _,Good.is _,Good.is _,Good.is _,Good.is _,Good.is _,cert_bx2,Good.is _,trivial⟩
     ⟨E0,h1,p3,fp6,hq,hr,Nat.le_refl _⟩ (A:=?A2) ?hA2 ?howe2 ?hfin2
    case hA2=>
     intro vs
     simp only[putAll,Act.put,sA,sZ,sS,Nat.zero_add,Nat.reduceAdd]
     exact rfl
    case howe2=>
     clear E0 h1 p3 fp6 hq hr
     intro hf
     refine⟨oE 0 [] hf rfl ?_,oE 1 [0] hf rfl ?_,oE 2 [1] hf rfl ?_,oE 3 [2] hf rfl ?_,oE 4 [3] hf rfl ?_,oE 5 [3,4] hf rfl ?_,oE 6 [3,5] hf rfl ?_,oE 7 [3,6] hf rfl ?_,oE 8 [] hf rfl ?_,oE 9 [7,8] hf rfl ?_,oW 10 [9] hf rfl ?_,oE 11 [] hf rfl ?_,trivial⟩
     all_goals intro vs W hS hp hx KO hKO
     all_goals simp only[Act.put,sA,sZ,sS]at hKO
     ·go_simp;exact hKO _ W (.refl W) rfl
     ·have e0:=isOf hp.1;simp only[e0]at hKO;go_simp;exact hKO _ W (.refl W) rfl
     ·have e1:=isOf hp.1;simp only[e1]at hKO;have fc0:=hS.2.2.1.cell0;go_simp;exact hKO _ W (.refl W) rfl
     ·have e2:=isOf hp.1;simp only[e2]at hKO;go_simp;exact hKO _ W (.refl W) rfl
     ·have e3:=isOf hp.1;simp only[e3]at hKO;go_simp;exact hKO _ W (.refl W) rfl
     ·have e3:=isOf hp.1;have e4:=isOf hp.2.1;simp only[e3,e4]at hKO;go_simp;exact hKO _ W (.refl W) rfl
     ·have e3:=isOf hp.1;have e5:=isOf hp.2.1;simp only[e3,e5]at hKO;go_simp;exact hKO _ W (Ext.refl W) (by first | exact congrArg Value.bool HXI.out | exact congrArg Value.bool HXN.out)
     ·have e3:=isOf hp.1;have e6:=isOf hp.2.1;simp only[e3,e6]at hKO;go_simp;exact hKO _ W (.refl W) rfl
     ·go_simp;exact hKO _ W (.refl W) rfl
     ·have e7:=isOf hp.1;have e8:=isOf hp.2.1;simp only[e7,e8]at hKO;go_simp;exact hKO _ W (.refl W) rfl
     ·have e9:=isOf hp.1;simp only[e9]at hKO
      have hf:=hS.2.2.2.1
      obtain⟨x0_0,x0_1,hx,hno⟩:=hf.bx2
      have r0:=hx.froz0
      have t0:=hx.cell0
      have r1:=hx.froz1
      have t1:=hx.cell1
      have hw:=Wr.set2 hx hno XB aq nq cq
      have hq:=hx.set (.bool XB) (.slice aq nq cq)
      have hg:(w.heap.size+1)≤(w.heap.size+1):=Nat.le_refl _
      go_simp
      exact hKO _ _ hw ⟨(Ext.wr hS.1 hw (by omega)),(hS.2.1.wr hw),(hS.2.2.1.wr hw (by omega)),(hS.2.2.2.1.wr hw),(hS.2.2.2.2.1.wr hw),(hS.2.2.2.2.2.1.wr hw),(Nat.le_trans hS.2.2.2.2.2.2 hw.apart.size)⟩ hq
     ·go_simp;exact hKO _ W (.refl W) rfl
    intro vs W2 hS hp
    clear szw2 E0 h1 p3 fp6 hq hr
    obtain⟨E0,h1,p3,fp6,hq,hr,sz2⟩:=hS
    obtain⟨h2_0,h2_1,h2_2,h2_3,h2_4,h2_5,h2_6,h2_7,h2_8,h2_9,h2_10,h2_11,-⟩:=hp
    have p2_10:Bx2 W2 (w.heap.size+1) 43 (.bool XB) (.slice aq nq cq):=h2_10
    replace h2_0:vs 0=.pointer (some ⟨w.heap.size,0,none⟩):=h2_0
    replace h2_1:vs 1=.pointer (some ⟨w.heap.size,0,none⟩):=h2_1
    replace h2_2:vs 2=.bool true:=h2_2
    replace h2_3:vs 3=.bool true:=h2_3
    replace h2_4:vs 4=.slice aq nq cq:=h2_4
    replace h2_5:vs 5=.int .i64 (nq:Int):=h2_5
    replace h2_6:vs 6=.bool XB:=h2_6
    replace h2_7:vs 7=.bool XB:=h2_7
    replace h2_8:vs 8=.slice aq nq cq:=h2_8
    replace h2_9:vs 9=.agg #[.bool XB,.slice aq nq cq]:=h2_9
    replace h2_11:vs 11=.int .i64 0:=h2_11
    simp only[h2_0,h2_1,h2_2,h2_3,h2_4,h2_5,h2_6,h2_7,h2_8,h2_9,h2_11]
    clear h2_0 h2_1 h2_2 h2_3 h2_4 h2_5 h2_6 h2_7 h2_8 h2_9 h2_11
    obtain⟨kp3_0,kp3_1,kp3_2⟩:=p3.c3
    obtain⟨kp2_10_0,kp2_10_1⟩:=p2_10.c2
    simp only[Exit.then]
    refine ‹∀ (a:Act) (w:World),Code.wp _ _ _ a w→_› _ _ ?_
    refine wp_ret ?_
    exact bodyPost_ret (v:=.tuple #[.agg #[.bool XB,.slice aq nq cq],.int .i64 0]) (by simp[results,Tryz.results130,go_sem,kp2_10_0,kp2_10_1]) rfl ⟨_,rfl,Zw.put hq (by rw[sgn_neg,HXM.out];exact(Bool.and_self XB).symm) (by rw[HX.out];rw[if_neg (by rw[HA.out];simp)];exact sgn_lead HXM.out),E0⟩
  ·have HA:=Lib.hid hA
   clear hA
   obtain⟨kp3_0,kp3_1,kp3_2⟩:=p3.c3
   obtain⟨kp6_0,kp6_1⟩:=p6.c2
   go_wp2_with fail
   clear kp3_0 kp3_1 kp3_2 kp6_0 kp6_1
   refine(Tryz.natOf 1 _ B1.out).mono ?_
   rintro e Wd ⟨v1,rfl,hone,hE,-⟩
   replace E0:=(Ext.trans E0 hE);replace h1:=(h1.ext hE);replace p3:=(p3.ext hE);replace p6:=(p6.ext hE);replace hq:=(hq.ext hE);replace hr:=(hr.ext hE);clear hE
   obtain⟨kp3_0,kp3_1,kp3_2⟩:=p3.c3
   obtain⟨kp6_0,kp6_1⟩:=p6.c2
   go_wp2_with fail
   clear kp3_0 kp3_1 kp3_2 kp6_0 kp6_1
   refine(Tryz.natAdd hq hone SQ.out S1.out (by omega)).mono ?_
   rintro e We ⟨vy,rfl,hy,hE,-⟩
   replace E0:=(Ext.trans E0 hE);replace h1:=(h1.ext hE);replace p3:=(p3.ext hE);replace p6:=(p6.ext hE);replace hq:=(hq.ext hE);replace hr:=(hr.ext hE);replace hone:=(hone.ext hE);clear hE;clear hq hone;clear zq
   obtain⟨ay,ny,cy,ezy,zy,-⟩:=hy.len
   rw[ezy]at hy ⊢
   clear ezy
   obtain⟨kp3_0,kp3_1,kp3_2⟩:=p3.c3
   obtain⟨kp6_0,kp6_1⟩:=p6.c2
   go_upto_region 7 with (fail)
   clear kp3_0 kp3_1 kp3_2 kp6_0 kp6_1
   cases b1
   ·have HX:Hid (decide (x.num < 0)=false):=Lib.hid HB.out.symm
    clear zy;have fp6:=p6.form;have ltp3:=p3.lt;have ltfp6:=fp6.lt;have szw3:=Ext.size E0
    refine region_gs [.one fun v _=>v=.pointer (some ⟨w.heap.size,0,none⟩),
      .one fun v _=>v=.pointer (some ⟨w.heap.size,0,none⟩),
      .one fun v _=>v=.bool false,
      .one fun v _=>v=.bool false,
      .one fun v _=>v=undef,
      .one fun v _=>v=undef,
      .one fun v _=>v=undef,
      .one fun v _=>v=.bool false,
      .one fun v _=>v=.slice ay ny cy,
      .one fun v _=>v=.agg #[.bool false,.slice ay ny cy],
      .own fun W=>Bx2 W (w.heap.size+1) 43 (.bool false) (.slice ay ny cy),
      .one fun v _=>v=.int .i64 0]
     (fun W=>Ext w W∧Rw W (.agg #[.bool false,.slice a1 n1 c1,.slice d1 m1 o1]) x∧Bx3 W w.heap.size 45 (.bool false) (.slice a1 n1 c1) (.slice d1 m1 o1)∧Form W (w.heap.size+1) 43 2∧Nw W (.slice ar nr cr) (N % D)∧Nw W (.slice ay ny cy) (N / D+1)∧We.heap.size≤W.heap.size) ⟨Good.is _,Good.is _,Good.is _,Good.is _,Good.is _,Good.is _,Good.is _,Good.is _,Good.is _,Good.is _,cert_bx2,Good.is _,trivial⟩
     ⟨E0,h1,p3,fp6,hr,hy,Nat.le_refl _⟩ (A:=?A3) ?hA3 ?howe3 ?hfin3
    case hA3=>
     intro vs
     simp only[putAll,Act.put,sA,sZ,sS,Nat.zero_add,Nat.reduceAdd]
     exact rfl
    case howe3=>
     clear E0 h1 p3 fp6 hr hy
     intro hf
     refine⟨oE 0 [] hf rfl ?_,oE 1 [0] hf rfl ?_,oE 2 [1] hf rfl ?_,oE 3 [2] hf rfl ?_,oE 4 [3] hf rfl ?_,oE 5 [3] hf rfl ?_,oE 6 [3] hf rfl ?_,oE 7 [3,6] hf rfl ?_,oE 8 [] hf rfl ?_,oE 9 [7,8] hf rfl ?_,oW 10 [9] hf rfl ?_,oE 11 [] hf rfl ?_,trivial⟩
     all_goals intro vs W hS hp hx KO hKO
     all_goals simp only[Act.put,sA,sZ,sS]at hKO
     ·go_simp;exact hKO _ W (.refl W) rfl
     ·have e0:=isOf hp.1;simp only[e0]at hKO;go_simp;exact hKO _ W (.refl W) rfl
     ·have e1:=isOf hp.1;simp only[e1]at hKO;have fc0:=hS.2.2.1.cell0;go_simp;exact hKO _ W (.refl W) rfl
     ·have e2:=isOf hp.1;simp only[e2]at hKO;go_simp;exact hKO _ W (.refl W) rfl
     ·have e3:=isOf hp.1;simp only[e3]at hKO;go_simp;exact hKO _ W (.refl W) rfl
     ·have e3:=isOf hp.1;simp only[e3]at hKO;go_simp;exact hKO _ W (.refl W) rfl
     ·have e3:=isOf hp.1;simp only[e3]at hKO;go_simp;exact hKO _ W (.refl W) rfl
     ·have e3:=isOf hp.1;have e6:=isOf hp.2.1;simp only[e3,e6]at hKO;go_simp;exact hKO _ W (.refl W) rfl
     ·go_simp;exact hKO _ W (.refl W) rfl
     ·have e7:=isOf hp.1;have e8:=isOf hp.2.1;simp only[e7,e8]at hKO;go_simp;exact hKO _ W (.refl W) rfl
     ·have e9:=isOf hp.1;simp only[e9]at hKO
      have hf:=hS.2.2.2.1
      obtain⟨x0_0,x0_1,hx,hno⟩:=hf.bx2
      have r0:=hx.froz0
      have t0:=hx.cell0
      have r1:=hx.froz1
      have t1:=hx.cell1
      have hw:=Wr.set2 hx hno false ay ny cy
      have hq:=hx.set (.bool false) (.slice ay ny cy)
      have hg:(w.heap.size+1)≤(w.heap.size+1):=Nat.le_refl _
      go_simp
      exact hKO _ _ hw ⟨(Ext.wr hS.1 hw (by omega)),(hS.2.1.wr hw),(hS.2.2.1.wr hw (by omega)),(hS.2.2.2.1.wr hw),(hS.2.2.2.2.1.wr hw),(hS.2.2.2.2.2.1.wr hw),(Nat.le_trans hS.2.2.2.2.2.2 hw.apart.size)⟩ hq
     ·go_simp;exact hKO _ W (.refl W) rfl
    intro vs W3 hS hp
    clear szw3 E0 h1 p3 fp6 hr hy
    obtain⟨E0,h1,p3,fp6,hr,hy,sz3⟩:=hS
    obtain⟨h3_0,h3_1,h3_2,h3_3,h3_4,h3_5,h3_6,h3_7,h3_8,h3_9,h3_10,h3_11,-⟩:=hp
    have p3_10:Bx2 W3 (w.heap.size+1) 43 (.bool false) (.slice ay ny cy):=h3_10
    replace h3_0:vs 0=.pointer (some ⟨w.heap.size,0,none⟩):=h3_0
    replace h3_1:vs 1=.pointer (some ⟨w.heap.size,0,none⟩):=h3_1
    replace h3_2:vs 2=.bool false:=h3_2
    replace h3_3:vs 3=.bool false:=h3_3
    replace h3_4:vs 4=undef:=h3_4
    replace h3_5:vs 5=undef:=h3_5
    replace h3_6:vs 6=undef:=h3_6
    replace h3_7:vs 7=.bool false:=h3_7
    replace h3_8:vs 8=.slice ay ny cy:=h3_8
    replace h3_9:vs 9=.agg #[.bool false,.slice ay ny cy]:=h3_9
    replace h3_11:vs 11=.int .i64 0:=h3_11
    simp only[h3_0,h3_1,h3_2,h3_3,h3_4,h3_5,h3_6,h3_7,h3_8,h3_9,h3_11]
    clear h3_0 h3_1 h3_2 h3_3 h3_4 h3_5 h3_6 h3_7 h3_8 h3_9 h3_11
    obtain⟨kp3_0,kp3_1,kp3_2⟩:=p3.c3
    obtain⟨kp3_10_0,kp3_10_1⟩:=p3_10.c2
    simp only[Exit.then]
    refine ‹∀ (a:Act) (w:World),Code.wp _ _ _ a w→_› _ _ ?_
    refine wp_ret ?_
    exact bodyPost_ret (v:=.tuple #[.agg #[.bool false,.slice ay ny cy],.int .i64 0]) (by simp[results,Tryz.results130,go_sem,kp3_10_0,kp3_10_1]) rfl ⟨_,rfl,Zw.put hy (by rw[sgn_neg];rfl) (by rw[HX.out];rw[if_pos HA.out]),E0⟩
   ·have HX:Hid (decide (x.num < 0)=true):=Lib.hid HB.out.symm
    obtain⟨XB,hXB⟩:∃ X,decide (0 < (N / D+1))=X:=⟨_,rfl⟩
    have HXM:=Lib.hid hXB
    have HXN:Hid (decide (0 < ny)=XB):=Lib.hid (by rw[← hXB,Bool.eq_iff_iff,decide_eq_true_iff,decide_eq_true_iff];exact⟨fun h=>Nat.pos_of_ne_zero fun e=>Nat.ne_of_gt h (zy.2 e),fun h=>Nat.pos_of_ne_zero fun e=>Nat.ne_of_gt h (zy.1 e)⟩)
    have HXI:Hid (decide ((0:Int) < (ny:Int))=XB):=Lib.hid (by rw[← HXN.out,Bool.eq_iff_iff,decide_eq_true_iff,decide_eq_true_iff];omega)
    clear zy hXB;have fp6:=p6.form;have ltp3:=p3.lt;have ltfp6:=fp6.lt;have szw4:=Ext.size E0
    refine region_gs [.one fun v _=>v=.pointer (some ⟨w.heap.size,0,none⟩),
      .one fun v _=>v=.pointer (some ⟨w.heap.size,0,none⟩),
      .one fun v _=>v=.bool true,
      .one fun v _=>v=.bool true,
      .one fun v _=>v=.slice ay ny cy,
      .one fun v _=>v=.int .i64 (ny:Int),
      .one fun v _=>v=.bool XB,
      .one fun v _=>v=.bool XB,
      .one fun v _=>v=.slice ay ny cy,
      .one fun v _=>v=.agg #[.bool XB,.slice ay ny cy],
      .own fun W=>Bx2 W (w.heap.size+1) 43 (.bool XB) (.slice ay ny cy),
      .one fun v _=>v=.int .i64 0]
     (fun W=>Ext w W∧Rw W (.agg #[.bool true,.slice a1 n1 c1,.slice d1 m1 o1]) x∧Bx3 W w.heap.size 45 (.bool true) (.slice a1 n1 c1) (.slice d1 m1 o1)∧Form W (w.heap.size+1) 43 2∧Nw W (.slice ar nr cr) (N % D)∧Nw W (.slice ay ny cy) (N / D+1)∧We.heap.size≤W.heap.size) ⟨Good.is _,Good.is _,Good.is _,Good.is _,Good.is _,Good.is _,Good.is _,Good.is _,Good.is _,Good.is _,cert_bx2,Good.is _,trivial⟩
     ⟨E0,h1,p3,fp6,hr,hy,Nat.le_refl _⟩ (A:=?A4) ?hA4 ?howe4 ?hfin4
    case hA4=>
     intro vs
     simp only[putAll,Act.put,sA,sZ,sS,Nat.zero_add,Nat.reduceAdd]
     exact rfl
    case howe4=>
     clear E0 h1 p3 fp6 hr hy
     intro hf
     refine⟨oE 0 [] hf rfl ?_,oE 1 [0] hf rfl ?_,oE 2 [1] hf rfl ?_,oE 3 [2] hf rfl ?_,oE 4 [3] hf rfl ?_,oE 5 [3,4] hf rfl ?_,oE 6 [3,5] hf rfl ?_,oE 7 [3,6] hf rfl ?_,oE 8 [] hf rfl ?_,oE 9 [7,8] hf rfl ?_,oW 10 [9] hf rfl ?_,oE 11 [] hf rfl ?_,trivial⟩
     all_goals intro vs W hS hp hx KO hKO
     all_goals simp only[Act.put,sA,sZ,sS]at hKO
     ·go_simp;exact hKO _ W (.refl W) rfl
     ·have e0:=isOf hp.1;simp only[e0]at hKO;go_simp;exact hKO _ W (.refl W) rfl
     ·have e1:=isOf hp.1;simp only[e1]at hKO;have fc0:=hS.2.2.1.cell0;go_simp;exact hKO _ W (.refl W) rfl
     ·have e2:=isOf hp.1;simp only[e2]at hKO;go_simp;exact hKO _ W (.refl W) rfl
     ·have e3:=isOf hp.1;simp only[e3]at hKO;go_simp;exact hKO _ W (.refl W) rfl
     ·have e3:=isOf hp.1;have e4:=isOf hp.2.1;simp only[e3,e4]at hKO;go_simp;exact hKO _ W (.refl W) rfl
     ·have e3:=isOf hp.1;have e5:=isOf hp.2.1;simp only[e3,e5]at hKO;go_simp;exact hKO _ W (Ext.refl W) (by first | exact congrArg Value.bool HXI.out | exact congrArg Value.bool HXN.out)
     ·have e3:=isOf hp.1;have e6:=isOf hp.2.1;simp only[e3,e6]at hKO;go_simp;exact hKO _ W (.refl W) rfl
     ·go_simp;exact hKO _ W (.refl W) rfl
     ·have e7:=isOf hp.1;have e8:=isOf hp.2.1;simp only[e7,e8]at hKO;go_simp;exact hKO _ W (.refl W) rfl
     ·have e9:=isOf hp.1;simp only[e9]at hKO
      have hf:=hS.2.2.2.1
      obtain⟨x0_0,x0_1,hx,hno⟩:=hf.bx2
      have r0:=hx.froz0
      have t0:=hx.cell0
      have r1:=hx.froz1
      have t1:=hx.cell1
      have hw:=Wr.set2 hx hno XB ay ny cy
      have hq:=hx.set (.bool XB) (.slice ay ny cy)
      have hg:(w.heap.size+1)≤(w.heap.size+1):=Nat.le_refl _
      go_simp
      exact hKO _ _ hw ⟨(Ext.wr hS.1 hw (by omega)),(hS.2.1.wr hw),(hS.2.2.1.wr hw (by omega)),(hS.2.2.2.1.wr hw),(hS.2.2.2.2.1.wr hw),(hS.2.2.2.2.2.1.wr hw),(Nat.le_trans hS.2.2.2.2.2.2 hw.apart.size)⟩ hq
     ·go_simp;exact hKO _ W (.refl W) rfl
    intro vs W4 hS hp
    clear szw4 E0 h1 p3 fp6 hr hy
    obtain⟨E0,h1,p3,fp6,hr,hy,sz4⟩:=hS
    obtain⟨h4_0,h4_1,h4_2,h4_3,h4_4,h4_5,h4_6,h4_7,h4_8,h4_9,h4_10,h4_11,-⟩:=hp
    have p4_10:Bx2 W4 (w.heap.size+1) 43 (.bool XB) (.slice ay ny cy):=h4_10
    replace h4_0:vs 0=.pointer (some ⟨w.heap.size,0,none⟩):=h4_0
    replace h4_1:vs 1=.pointer (some ⟨w.heap.size,0,none⟩):=h4_1
    replace h4_2:vs 2=.bool true:=h4_2
    replace h4_3:vs 3=.bool true:=h4_3
    replace h4_4:vs 4=.slice ay ny cy:=h4_4
    replace h4_5:vs 5=.int .i64 (ny:Int):=h4_5
    replace h4_6:vs 6=.bool XB:=h4_6
    replace h4_7:vs 7=.bool XB:=h4_7
    replace h4_8:vs 8=.slice ay ny cy:=h4_8
    replace h4_9:vs 9=.agg #[.bool XB,.slice ay ny cy]:=h4_9
    replace h4_11:vs 11=.int .i64 0:=h4_11
    simp only[h4_0,h4_1,h4_2,h4_3,h4_4,h4_5,h4_6,h4_7,h4_8,h4_9,h4_11]
    clear h4_0 h4_1 h4_2 h4_3 h4_4 h4_5 h4_6 h4_7 h4_8 h4_9 h4_11
    obtain⟨kp3_0,kp3_1,kp3_2⟩:=p3.c3
    obtain⟨kp4_10_0,kp4_10_1⟩:=p4_10.c2
    simp only[Exit.then]
    refine ‹∀ (a:Act) (w:World),Code.wp _ _ _ a w→_› _ _ ?_
    refine wp_ret ?_
    exact bodyPost_ret (v:=.tuple #[.agg #[.bool XB,.slice ay ny cy],.int .i64 0]) (by simp[results,Tryz.results130,go_sem,kp4_10_0,kp4_10_1]) rfl ⟨_,rfl,Zw.put hy (by rw[sgn_neg,HXM.out];exact(Bool.and_self XB).symm) (by rw[HX.out];rw[if_pos HA.out];exact sgn_lead HXM.out),E0⟩
 ·have hrI:¬ (0:Int) < (nr:Int):=by omega
  have HR0:Hid (N % D=0):=Lib.hid (zr.1 (by omega))
  clear zr
  obtain⟨kp3_0,kp3_1,kp3_2⟩:=p3.c3
  obtain⟨kp6_0,kp6_1⟩:=p6.c2
  go_upto_region 7 with (fail)
  clear kp3_0 kp3_1 kp3_2 kp6_0 kp6_1
  have HA:Hid (overB (N / D) (N % D) D=false):=Lib.hid (by have h0:=HR0.out;unfold overB;rw[h0];have:=HQ0.out;exact decide_eq_false (by omega))
  cases b1
  ·have HX:Hid (decide (x.num < 0)=false):=Lib.hid HB.out.symm
   clear zq;have fp6:=p6.form;have ltp3:=p3.lt;have ltfp6:=fp6.lt;have szw5:=Ext.size E0
   refine region_gs [.one fun v _=>v=.pointer (some ⟨w.heap.size,0,none⟩),
     .one fun v _=>v=.pointer (some ⟨w.heap.size,0,none⟩),
     .one fun v _=>v=.bool false,
     .one fun v _=>v=.bool false,
     .one fun v _=>v=undef,
     .one fun v _=>v=undef,
     .one fun v _=>v=undef,
     .one fun v _=>v=.bool false,
     .one fun v _=>v=.slice aq nq cq,
     .one fun v _=>v=.agg #[.bool false,.slice aq nq cq],
     .own fun W=>Bx2 W (w.heap.size+1) 43 (.bool false) (.slice aq nq cq),
     .one fun v _=>v=.int .i64 0]
    (fun W=>Ext w W∧Rw W (.agg #[.bool false,.slice a1 n1 c1,.slice d1 m1 o1]) x∧Bx3 W w.heap.size 45 (.bool false) (.slice a1 n1 c1) (.slice d1 m1 o1)∧Form W (w.heap.size+1) 43 2∧Nw W (.slice aq nq cq) (N / D)∧Nw W (.slice ar nr cr) (N % D)∧Wb.heap.size≤W.heap.size) ⟨Good.is _,Good.is _,Good.is _,Good.is _,Good.is _,Good.is _,Good.is _,Good.is _,Good.is _,Good.is _,cert_bx2,Good.is _,trivial⟩
    ⟨E0,h1,p3,fp6,hq,hr,Nat.le_refl _⟩ (A:=?A5) ?hA5 ?howe5 ?hfin5
   case hA5=>
    intro vs
    simp only[putAll,Act.put,sA,sZ,sS,Nat.zero_add,Nat.reduceAdd]
    exact rfl
   case howe5=>
    clear E0 h1 p3 fp6 hq hr
    intro hf
    refine⟨oE 0 [] hf rfl ?_,oE 1 [0] hf rfl ?_,oE 2 [1] hf rfl ?_,oE 3 [2] hf rfl ?_,oE 4 [3] hf rfl ?_,oE 5 [3] hf rfl ?_,oE 6 [3] hf rfl ?_,oE 7 [3,6] hf rfl ?_,oE 8 [] hf rfl ?_,oE 9 [7,8] hf rfl ?_,oW 10 [9] hf rfl ?_,oE 11 [] hf rfl ?_,trivial⟩
    all_goals intro vs W hS hp hx KO hKO
    all_goals simp only[Act.put,sA,sZ,sS]at hKO
    ·go_simp;exact hKO _ W (.refl W) rfl
    ·have e0:=isOf hp.1;simp only[e0]at hKO;go_simp;exact hKO _ W (.refl W) rfl
    ·have e1:=isOf hp.1;simp only[e1]at hKO;have fc0:=hS.2.2.1.cell0;go_simp;exact hKO _ W (.refl W) rfl
    ·have e2:=isOf hp.1;simp only[e2]at hKO;go_simp;exact hKO _ W (.refl W) rfl
    ·have e3:=isOf hp.1;simp only[e3]at hKO;go_simp;exact hKO _ W (.refl W) rfl
    ·have e3:=isOf hp.1;simp only[e3]at hKO;go_simp;exact hKO _ W (.refl W) rfl
    ·have e3:=isOf hp.1;simp only[e3]at hKO;go_simp;exact hKO _ W (.refl W) rfl
    ·have e3:=isOf hp.1;have e6:=isOf hp.2.1;simp only[e3,e6]at hKO;go_simp;exact hKO _ W (.refl W) rfl
    ·go_simp;exact hKO _ W (.refl W) rfl
    ·have e7:=isOf hp.1;have e8:=isOf hp.2.1;simp only[e7,e8]at hKO;go_simp;exact hKO _ W (.refl W) rfl
    ·have e9:=isOf hp.1;simp only[e9]at hKO
     have hf:=hS.2.2.2.1
     obtain⟨x0_0,x0_1,hx,hno⟩:=hf.bx2
     have r0:=hx.froz0
     have t0:=hx.cell0
     have r1:=hx.froz1
     have t1:=hx.cell1
     have hw:=Wr.set2 hx hno false aq nq cq
     have hq:=hx.set (.bool false) (.slice aq nq cq)
     have hg:(w.heap.size+1)≤(w.heap.size+1):=Nat.le_refl _
     go_simp
     exact hKO _ _ hw ⟨(Ext.wr hS.1 hw (by omega)),(hS.2.1.wr hw),(hS.2.2.1.wr hw (by omega)),(hS.2.2.2.1.wr hw),(hS.2.2.2.2.1.wr hw),(hS.2.2.2.2.2.1.wr hw),(Nat.le_trans hS.2.2.2.2.2.2 hw.apart.size)⟩ hq
    ·go_simp;exact hKO _ W (.refl W) rfl
   intro vs W5 hS hp
   clear szw5 E0 h1 p3 fp6 hq hr
   obtain⟨E0,h1,p3,fp6,hq,hr,sz5⟩:=hS
   obtain⟨h5_0,h5_1,h5_2,h5_3,h5_4,h5_5,h5_6,h5_7,h5_8,h5_9,h5_10,h5_11,-⟩:=hp
   have p5_10:Bx2 W5 (w.heap.size+1) 43 (.bool false) (.slice aq nq cq):=h5_10
   replace h5_0:vs 0=.pointer (some ⟨w.heap.size,0,none⟩):=h5_0
   replace h5_1:vs 1=.pointer (some ⟨w.heap.size,0,none⟩):=h5_1
   replace h5_2:vs 2=.bool false:=h5_2
   replace h5_3:vs 3=.bool false:=h5_3
   replace h5_4:vs 4=undef:=h5_4
   replace h5_5:vs 5=undef:=h5_5
   replace h5_6:vs 6=undef:=h5_6
   replace h5_7:vs 7=.bool false:=h5_7
   replace h5_8:vs 8=.slice aq nq cq:=h5_8
   replace h5_9:vs 9=.agg #[.bool false,.slice aq nq cq]:=h5_9
   replace h5_11:vs 11=.int .i64 0:=h5_11
   simp only[h5_0,h5_1,h5_2,h5_3,h5_4,h5_5,h5_6,h5_7,h5_8,h5_9,h5_11]
   clear h5_0 h5_1 h5_2 h5_3 h5_4 h5_5 h5_6 h5_7 h5_8 h5_9 h5_11
   obtain⟨kp3_0,kp3_1,kp3_2⟩:=p3.c3
   obtain⟨kp5_10_0,kp5_10_1⟩:=p5_10.c2
   simp only[Exit.then]
   refine ‹∀ (a:Act) (w:World),Code.wp _ _ _ a w→_› _ _ ?_
   refine wp_ret ?_
   exact bodyPost_ret (v:=.tuple #[.agg #[.bool false,.slice aq nq cq],.int .i64 0]) (by simp[results,Tryz.results130,go_sem,kp5_10_0,kp5_10_1]) rfl ⟨_,rfl,Zw.put hq (by rw[sgn_neg];rfl) (by rw[HX.out];rw[if_neg (by rw[HA.out];simp)]),E0⟩
  ·have HX:Hid (decide (x.num < 0)=true):=Lib.hid HB.out.symm
   obtain⟨XB,hXB⟩:∃ X,decide (0 < N / D)=X:=⟨_,rfl⟩
   have HXM:=Lib.hid hXB
   have HXN:Hid (decide (0 < nq)=XB):=Lib.hid (by rw[← hXB,Bool.eq_iff_iff,decide_eq_true_iff,decide_eq_true_iff];exact⟨fun h=>Nat.pos_of_ne_zero fun e=>Nat.ne_of_gt h (zq.2 e),fun h=>Nat.pos_of_ne_zero fun e=>Nat.ne_of_gt h (zq.1 e)⟩)
   have HXI:Hid (decide ((0:Int) < (nq:Int))=XB):=Lib.hid (by rw[← HXN.out,Bool.eq_iff_iff,decide_eq_true_iff,decide_eq_true_iff];omega)
   clear zq hXB;have fp6:=p6.form;have ltp3:=p3.lt;have ltfp6:=fp6.lt;have szw6:=Ext.size E0
   refine region_gs [.one fun v _=>v=.pointer (some ⟨w.heap.size,0,none⟩),
     .one fun v _=>v=.pointer (some ⟨w.heap.size,0,none⟩),
     .one fun v _=>v=.bool true,
     .one fun v _=>v=.bool true,
     .one fun v _=>v=.slice aq nq cq,
     .one fun v _=>v=.int .i64 (nq:Int),
     .one fun v _=>v=.bool XB,
     .one fun v _=>v=.bool XB,
     .one fun v _=>v=.slice aq nq cq,
     .one fun v _=>v=.agg #[.bool XB,.slice aq nq cq],
     .own fun W=>Bx2 W (w.heap.size+1) 43 (.bool XB) (.slice aq nq cq),
     .one fun v _=>v=.int .i64 0]
    (fun W=>Ext w W∧Rw W (.agg #[.bool true,.slice a1 n1 c1,.slice d1 m1 o1]) x∧Bx3 W w.heap.size 45 (.bool true) (.slice a1 n1 c1) (.slice d1 m1 o1)∧Form W (w.heap.size+1) 43 2∧Nw W (.slice aq nq cq) (N / D)∧Nw W (.slice ar nr cr) (N % D)∧Wb.heap.size≤W.heap.size) ⟨Good.is _,Good.is _,Good.is _,Good.is _,Good.is _,Good.is _,Good.is _,Good.is _,Good.is _,Good.is _,cert_bx2,Good.is _,trivial⟩
    ⟨E0,h1,p3,fp6,hq,hr,Nat.le_refl _⟩ (A:=?A6) ?hA6 ?howe6 ?hfin6
   case hA6=>
    intro vs
    simp only[putAll,Act.put,sA,sZ,sS,Nat.zero_add,Nat.reduceAdd]
    exact rfl
   case howe6=>
    clear E0 h1 p3 fp6 hq hr
    intro hf
    refine⟨oE 0 [] hf rfl ?_,oE 1 [0] hf rfl ?_,oE 2 [1] hf rfl ?_,oE 3 [2] hf rfl ?_,oE 4 [3] hf rfl ?_,oE 5 [3,4] hf rfl ?_,oE 6 [3,5] hf rfl ?_,oE 7 [3,6] hf rfl ?_,oE 8 [] hf rfl ?_,oE 9 [7,8] hf rfl ?_,oW 10 [9] hf rfl ?_,oE 11 [] hf rfl ?_,trivial⟩
    all_goals intro vs W hS hp hx KO hKO
    all_goals simp only[Act.put,sA,sZ,sS]at hKO
    ·go_simp;exact hKO _ W (.refl W) rfl
    ·have e0:=isOf hp.1;simp only[e0]at hKO;go_simp;exact hKO _ W (.refl W) rfl
    ·have e1:=isOf hp.1;simp only[e1]at hKO;have fc0:=hS.2.2.1.cell0;go_simp;exact hKO _ W (.refl W) rfl
    ·have e2:=isOf hp.1;simp only[e2]at hKO;go_simp;exact hKO _ W (.refl W) rfl
    ·have e3:=isOf hp.1;simp only[e3]at hKO;go_simp;exact hKO _ W (.refl W) rfl
    ·have e3:=isOf hp.1;have e4:=isOf hp.2.1;simp only[e3,e4]at hKO;go_simp;exact hKO _ W (.refl W) rfl
    ·have e3:=isOf hp.1;have e5:=isOf hp.2.1;simp only[e3,e5]at hKO;go_simp;exact hKO _ W (Ext.refl W) (by first | exact congrArg Value.bool HXI.out | exact congrArg Value.bool HXN.out)
    ·have e3:=isOf hp.1;have e6:=isOf hp.2.1;simp only[e3,e6]at hKO;go_simp;exact hKO _ W (.refl W) rfl
    ·go_simp;exact hKO _ W (.refl W) rfl
    ·have e7:=isOf hp.1;have e8:=isOf hp.2.1;simp only[e7,e8]at hKO;go_simp;exact hKO _ W (.refl W) rfl
    ·have e9:=isOf hp.1;simp only[e9]at hKO
     have hf:=hS.2.2.2.1
     obtain⟨x0_0,x0_1,hx,hno⟩:=hf.bx2
     have r0:=hx.froz0
     have t0:=hx.cell0
     have r1:=hx.froz1
     have t1:=hx.cell1
     have hw:=Wr.set2 hx hno XB aq nq cq
     have hq:=hx.set (.bool XB) (.slice aq nq cq)
     have hg:(w.heap.size+1)≤(w.heap.size+1):=Nat.le_refl _
     go_simp
     exact hKO _ _ hw ⟨(Ext.wr hS.1 hw (by omega)),(hS.2.1.wr hw),(hS.2.2.1.wr hw (by omega)),(hS.2.2.2.1.wr hw),(hS.2.2.2.2.1.wr hw),(hS.2.2.2.2.2.1.wr hw),(Nat.le_trans hS.2.2.2.2.2.2 hw.apart.size)⟩ hq
    ·go_simp;exact hKO _ W (.refl W) rfl
   intro vs W6 hS hp
   clear szw6 E0 h1 p3 fp6 hq hr
   obtain⟨E0,h1,p3,fp6,hq,hr,sz6⟩:=hS
   obtain⟨h6_0,h6_1,h6_2,h6_3,h6_4,h6_5,h6_6,h6_7,h6_8,h6_9,h6_10,h6_11,-⟩:=hp
   have p6_10:Bx2 W6 (w.heap.size+1) 43 (.bool XB) (.slice aq nq cq):=h6_10
   replace h6_0:vs 0=.pointer (some ⟨w.heap.size,0,none⟩):=h6_0
   replace h6_1:vs 1=.pointer (some ⟨w.heap.size,0,none⟩):=h6_1
   replace h6_2:vs 2=.bool true:=h6_2
   replace h6_3:vs 3=.bool true:=h6_3
   replace h6_4:vs 4=.slice aq nq cq:=h6_4
   replace h6_5:vs 5=.int .i64 (nq:Int):=h6_5
   replace h6_6:vs 6=.bool XB:=h6_6
   replace h6_7:vs 7=.bool XB:=h6_7
   replace h6_8:vs 8=.slice aq nq cq:=h6_8
   replace h6_9:vs 9=.agg #[.bool XB,.slice aq nq cq]:=h6_9
   replace h6_11:vs 11=.int .i64 0:=h6_11
   simp only[h6_0,h6_1,h6_2,h6_3,h6_4,h6_5,h6_6,h6_7,h6_8,h6_9,h6_11]
   clear h6_0 h6_1 h6_2 h6_3 h6_4 h6_5 h6_6 h6_7 h6_8 h6_9 h6_11
   obtain⟨kp3_0,kp3_1,kp3_2⟩:=p3.c3
   obtain⟨kp6_10_0,kp6_10_1⟩:=p6_10.c2
   simp only[Exit.then]
   refine ‹∀ (a:Act) (w:World),Code.wp _ _ _ a w→_› _ _ ?_
   refine wp_ret ?_
   exact bodyPost_ret (v:=.tuple #[.agg #[.bool XB,.slice aq nq cq],.int .i64 0]) (by simp[results,Tryz.results130,go_sem,kp6_10_0,kp6_10_1]) rfl ⟨_,rfl,Zw.put hq (by rw[sgn_neg,HXM.out];exact(Bool.and_self XB).symm) (by rw[HX.out];rw[if_neg (by rw[HA.out];simp)];exact sgn_lead HXM.out),E0⟩
set_option maxRecDepth 100000 in
set_option maxHeartbeats 1000000 in
theorem Tryz.dyadNear {v1:Value} {x:Rat} {L:Nat} {w:World} (h1:Rw w v1 x) (s1:SmR L x) (hL:L≤20000) (K:Nat) (hK:K≤2000):
  Calls Tryz.prog 129 #[v1,.int .i64 (K:Int)] w fun e w'=>∃ v',e=.returned (.tuple #[v',.int .i64 0])∧Zw w' v' (nearR (x*P2 K))∧Ext w w':=by
 obtain⟨b1,a1,n1,c1,d1,m1,o1,rfl,q1⟩:∃ b a n c d m o,v1=.agg #[.bool b,.slice a n c,.slice d m o]∧True:=let ⟨b,a,n,c,d,m,o,e,_⟩:=h1;⟨b,a,n,c,d,m,o,e,trivial⟩
 clear q1
 obtain⟨W0,hW0⟩:∃ W0,W0=((w.alloc (.cells #[.bool b1,.slice a1 n1 c1,.slice d1 m1 o1] 45)).alloc (.cells #[.bool false,.slice none 0 0] 43)):=⟨_,rfl⟩
 have E0:Ext w W0:=by rw[hW0];exact((Ext.alloc1 w (.cells #[.bool b1,.slice a1 n1 c1,.slice d1 m1 o1] 45)).alloc (.cells #[.bool false,.slice none 0 0] 43))
 replace h1:Rw W0 (.agg #[.bool b1,.slice a1 n1 c1,.slice d1 m1 o1]) x:=h1.ext E0
 have p2:Bx3 W0 w.heap.size 45 (.bool b1) (.slice a1 n1 c1) (.slice d1 m1 o1):=by rw[hW0];exact(Bx3.new w 45 (.bool b1) (.slice a1 n1 c1) (.slice d1 m1 o1)).ext (Ext.alloc1 (w.alloc (.cells #[.bool b1,.slice a1 n1 c1,.slice d1 m1 o1] 45)) (.cells #[.bool false,.slice none 0 0] 43))
 have p4:Bx2 W0 (w.heap.size+1) 43 (.bool false) (.slice none 0 0):=by rw[hW0];simpa using (Bx2.new (w.alloc (.cells #[.bool b1,.slice a1 n1 c1,.slice d1 m1 o1] 45)) 43 (.bool false) (.slice none 0 0))
 go_enter Tryz.func129,Tryz.ntmps129
 obtain⟨kp2_0,kp2_1,kp2_2⟩:=p2.c3
 obtain⟨kp4_0,kp4_1⟩:=p4.c2
 go_upto_region 1 with (fail)
 rw[← hW0]
 clear hW0;clear kp2_0 kp2_1 kp2_2 kp4_0 kp4_1;have fp4:=p4.form;have ltp2:=p2.lt;have ltfp4:=fp4.lt;have szw7:=Ext.size E0
 refine region_gs [.one fun v _=>v=.agg #[.bool b1,.slice a1 n1 c1,.slice d1 m1 o1],
   .one fun v _=>v=.int .i64 (K:Int),
   .one fun v W=>∃ v',v=.tuple #[v',.int .i64 0]∧(fun v W=>Zw W v (nearR (x*P2 K))) v' W,
   .one fun v W=>Zw W v (nearR (x*P2 K)),
   .one fun v _=>v=.int .i64 0,
   .two 3 (fun r _ W=>At2 (w.heap.size+1) 43 r W),
   .one fun v _=>v=.int .i64 0]
  (fun W=>Ext w W∧Rw W (.agg #[.bool b1,.slice a1 n1 c1,.slice d1 m1 o1]) x∧Bx3 W w.heap.size 45 (.bool b1) (.slice a1 n1 c1) (.slice d1 m1 o1)∧Form W (w.heap.size+1) 43 2∧W0.heap.size≤W.heap.size) ⟨Good.is _,Good.is _,(Good.zed _).tup _,Good.zed _,Good.is _,cert_at2,Good.is _,trivial⟩
  ⟨E0,h1,p2,fp4,Nat.le_refl _⟩ (A:=?A7) ?hA7 ?howe7 ?hfin7
 case hA7=>
  intro vs
  simp only[putAll,Act.put,sA,sZ,sS,Nat.zero_add,Nat.reduceAdd]
  exact rfl
 case howe7=>
  clear E0 h1 p2 fp4
  intro hf
  refine⟨oE 0 [] hf rfl ?_,oE 1 [] hf rfl ?_,oE 2 [0,1] hf rfl ?_,oE 3 [2] hf rfl ?_,oE 4 [2] hf rfl ?_,oW 5 [3] hf rfl ?_,oE 6 [4] hf rfl ?_,trivial⟩
  all_goals intro vs W hS hp hx KO hKO
  all_goals simp only[Act.put,sA,sZ,sS]at hKO
  ·have fc0:=hS.2.2.1.cell0;have fc1:=hS.2.2.1.cell1;have fc2:=hS.2.2.1.cell2;go_simp;exact hKO _ W (.refl W) rfl
  ·go_simp;exact hKO _ W (.refl W) rfl
  ·have e0:=isOf hp.1;have e1:=isOf hp.2.1;simp only[e0,e1]at hKO;go_simp
   refine(Tryz.dyadRoundN (hS.2.1) s1 hL K hK).mono ?_
   rintro e W1 ⟨v,rfl,hv,hE⟩
   exact hKO _ W1 hE ⟨_,rfl,hv⟩
  ·have q2:=hp.1
   obtain⟨u,ev,hu⟩:=q2
   replace ev:vs 2=_:=ev;simp only[ev]at hKO;go_simp;exact hKO _ W (Ext.refl W) hu
  ·have q2:=hp.1
   obtain⟨u,ev,hu⟩:=q2
   replace ev:vs 2=_:=ev;simp only[ev]at hKO;go_simp;exact hKO _ W (.refl W) rfl
  ·have q3:=hp.1
   have hf:=hS.2.2.2.1
   obtain⟨x0_0,x0_1,hx,hno⟩:=hf.bx2
   have qr:=q3
   obtain⟨b3,a3,n3,c3,er,-,-⟩:=qr
   replace er:vs 3=_:=er
   have r0:=hx.froz0
   have t0:=hx.cell0
   have r1:=hx.froz1
   have t1:=hx.cell1
   have hw:=Wr.set2 hx hno b3 a3 n3 c3
   have hq:=hx.set (.bool b3) (.slice a3 n3 c3)
   have hg:(w.heap.size+1)≤(w.heap.size+1):=Nat.le_refl _
   simp only[er]at hKO;go_simp
   exact hKO _ _ hw ⟨(Ext.wr hS.1 hw (by omega)),(hS.2.1.wr hw),(hS.2.2.1.wr hw (by omega)),(hS.2.2.2.1.wr hw),(Nat.le_trans hS.2.2.2.2 hw.apart.size)⟩ ⟨b3,a3,n3,c3,er,hq⟩
  ·have e4:=isOf hp.1;simp only[e4]at hKO;go_simp;exact hKO _ W (.refl W) rfl
 intro vs W7 hS hp
 clear szw7 E0 h1 p2 fp4
 obtain⟨E0,h1,p2,fp4,sz7⟩:=hS
 obtain⟨h7_0,h7_1,h7_2,h7_3,h7_4,h7_5,h7_6,-⟩:=hp
 obtain⟨b7_5,a7_5,n7_5,c7_5,er7_5,p7_5⟩:=h7_5
 replace er7_5:vs 3=_:=er7_5;replace h7_3:=(show Zw W7 (vs 3) (nearR (x*P2 K)) from h7_3)
 rw[er7_5]at h7_3
 replace h7_0:vs 0=.agg #[.bool b1,.slice a1 n1 c1,.slice d1 m1 o1]:=h7_0
 replace h7_1:vs 1=.int .i64 (K:Int):=h7_1
 replace h7_4:vs 4=.int .i64 0:=h7_4
 replace h7_6:vs 6=.int .i64 0:=h7_6
 simp only[er7_5,h7_0,h7_1,h7_4,h7_6]
 clear er7_5 h7_0 h7_1 h7_4 h7_6 h7_2
 obtain⟨kp2_0,kp2_1,kp2_2⟩:=p2.c3
 obtain⟨kp7_5_0,kp7_5_1⟩:=p7_5.c2
 go_wp2
 exact bodyPost_ret (v:=.tuple #[.agg #[.bool b7_5,.slice a7_5 n7_5 c7_5],.int .i64 0]) (by simp[results,Tryz.results129,go_sem,kp7_5_0,kp7_5_1]) rfl ⟨_,rfl,h7_3,E0⟩
set_option maxRecDepth 100000 in
set_option maxHeartbeats 1000000 in
theorem Tryz.fixOf {v1:Value} {x:Rat} {L:Nat} {w:World} (h1:Rw w v1 x) (s1:SmR L x) (hL:L≤20000) (K:Nat) (hK:K≤40) {V E:Int} (hV:fitV (nearR (x*P2 K))=V) (hE:fitE (nearR (x*P2 K))=E):
  Calls Tryz.prog 123 #[v1,.int .i64 (K:Int)] w fun e w'=>e=.returned (.tuple #[.int .i64 V,.int .i64 E])∧Ext w w':=by
 obtain⟨b1,a1,n1,c1,d1,m1,o1,rfl,q1⟩:∃ b a n c d m o,v1=.agg #[.bool b,.slice a n c,.slice d m o]∧True:=let ⟨b,a,n,c,d,m,o,e,_⟩:=h1;⟨b,a,n,c,d,m,o,e,trivial⟩
 clear q1
 have HF:Hid (fracB (K:Int)=true):=Lib.hid (decide_eq_true (by omega))
 have HV:=Lib.hid hV
 have HEE:=Lib.hid hE
 clear hV hE
 obtain⟨W0,hW0⟩:∃ W0,W0=(w.alloc (.cells #[.bool b1,.slice a1 n1 c1,.slice d1 m1 o1] 45)):=⟨_,rfl⟩
 have E0:Ext w W0:=by rw[hW0];exact(Ext.alloc1 w (.cells #[.bool b1,.slice a1 n1 c1,.slice d1 m1 o1] 45))
 replace h1:Rw W0 (.agg #[.bool b1,.slice a1 n1 c1,.slice d1 m1 o1]) x:=h1.ext E0
 have p2:Bx3 W0 w.heap.size 45 (.bool b1) (.slice a1 n1 c1) (.slice d1 m1 o1):=by rw[hW0];exact(Bx3.new w 45 (.bool b1) (.slice a1 n1 c1) (.slice d1 m1 o1))
 go_enter Tryz.func123,Tryz.ntmps123
 obtain⟨kp2_0,kp2_1,kp2_2⟩:=p2.c3
 go_wp2_with fail
 rw[← hW0]
 clear hW0;clear kp2_0 kp2_1 kp2_2
 refine(Tryz.fixIsFrac (K:Int) _).mono ?_
 rintro e Wc ⟨rfl,rfl⟩
 rw[HF.out]
 obtain⟨kp2_0,kp2_1,kp2_2⟩:=p2.c3
 go_upto_region 3 with (fail)
 clear kp2_0 kp2_1 kp2_2;have ltp2:=p2.lt;have szw8:=Ext.size E0
 refine region_gs [.one fun v _=>v=.agg #[.bool b1,.slice a1 n1 c1,.slice d1 m1 o1],
   .one fun v _=>v=.int .i64 (K:Int),
   .one fun v W=>∃ v',v=.tuple #[v',.int .i64 0]∧(fun v W=>Zw W v (nearR (x*P2 K))) v' W,
   .one fun v W=>∃ v',v=.tuple #[v',.int .i64 0]∧(fun v W=>Zw W v (nearR (x*P2 K))) v' W,
   .one fun v W=>Zw W v (nearR (x*P2 K)),
   .one fun v _=>v=.int .i64 0,
   .one fun v W=>∃ g,v=.pointer (some ⟨g,0,none⟩)∧W0.heap.size≤g∧Form W g 43 2,
   .three 6 4 (fun p r _ W=>Put2 W0.heap.size 43 p r W),
   .one fun v _=>v=.int .i64 0]
  (fun W=>Ext w W∧Rw W (.agg #[.bool b1,.slice a1 n1 c1,.slice d1 m1 o1]) x∧Bx3 W w.heap.size 45 (.bool b1) (.slice a1 n1 c1) (.slice d1 m1 o1)∧W0.heap.size≤W.heap.size) ⟨Good.is _,Good.is _,(Good.zed _).tup _,(Good.zed _).tup _,Good.zed _,Good.is _,Good.box _ _ _,cert_put2,Good.is _,trivial⟩
  ⟨E0,h1,p2,Nat.le_refl _⟩ (A:=?A8) ?hA8 ?howe8 ?hfin8
 case hA8=>
  intro vs
  simp only[putAll,Act.put,sA,sZ,sS,Nat.zero_add,Nat.reduceAdd]
  exact rfl
 case howe8=>
  clear E0 h1 p2
  intro hf
  refine⟨oE 0 [] hf rfl ?_,oE 1 [] hf rfl ?_,oE 2 [0,1] hf rfl ?_,oE 3 [2] hf rfl ?_,oE 4 [3] hf rfl ?_,oE 5 [3] hf rfl ?_,oE 6 [] hf rfl ?_,oW 7 [6,4] hf rfl ?_,oE 8 [5] hf rfl ?_,trivial⟩
  all_goals intro vs W hS hp hx KO hKO
  all_goals simp only[Act.put,sA,sZ,sS]at hKO
  ·have fc0:=hS.2.2.1.cell0;have fc1:=hS.2.2.1.cell1;have fc2:=hS.2.2.1.cell2;go_simp;exact hKO _ W (.refl W) rfl
  ·go_simp;exact hKO _ W (.refl W) rfl
  ·have e0:=isOf hp.1;have e1:=isOf hp.2.1;simp only[e0,e1]at hKO;go_simp
   refine(Tryz.dyadNear (hS.2.1) s1 hL K (by omega)).mono ?_
   rintro e W1 ⟨v,rfl,hv,hE⟩
   exact hKO _ W1 hE ⟨_,rfl,hv⟩
  ·have q2:=hp.1
   obtain⟨u,ev,hu⟩:=q2
   replace ev:vs 2=_:=ev;simp only[ev]at hKO;go_simp;exact hKO _ W (Ext.refl W) ⟨u,rfl,hu⟩
  ·have q3:=hp.1
   obtain⟨u,ev,hu⟩:=q3
   replace ev:vs 3=_:=ev;simp only[ev]at hKO;go_simp;exact hKO _ W (Ext.refl W) hu
  ·have q3:=hp.1
   obtain⟨u,ev,hu⟩:=q3
   replace ev:vs 3=_:=ev;simp only[ev]at hKO;go_simp;exact hKO _ W (.refl W) rfl
  ·have hn:=Bx2.new W 43 (.bool false) (.slice none 0 0)
   have hE:=Ext.alloc1 W (.cells #[.bool false,.slice none 0 0] 43)
   have hsz:=hS.2.2.2
   go_simp
   exact hKO _ _ hE ⟨_,rfl,hsz,hn.form⟩
  ·have q6:=hp.1;have q4:=hp.2.1
   obtain⟨g,ev,hg,hf⟩:=q6
   replace ev:vs 6=_:=ev
   obtain⟨x0_0,x0_1,hx,hno⟩:=hf.bx2
   have qr:=q4
   obtain⟨b3,a3,n3,c3,er,-,-⟩:=qr
   replace er:vs 4=_:=er
   have r0:=hx.froz0
   have t0:=hx.cell0
   have r1:=hx.froz1
   have t1:=hx.cell1
   have hw:=Wr.set2 hx hno b3 a3 n3 c3
   have hq:=hx.set (.bool b3) (.slice a3 n3 c3)
   simp only[ev,er]at hKO;go_simp
   exact hKO _ _ hw ⟨(Ext.wr hS.1 hw (by omega)),(hS.2.1.wr hw),(hS.2.2.1.wr hw (by omega)),(Nat.le_trans hS.2.2.2 hw.apart.size)⟩ ⟨g,b3,a3,n3,c3,ev,er,hg,hq⟩
  ·have e5:=isOf hp.1;simp only[e5]at hKO;go_simp;exact hKO _ W (.refl W) rfl
 intro vs W8 hS hp
 clear szw8 E0 h1 p2
 obtain⟨E0,h1,p2,sz8⟩:=hS
 obtain⟨h8_0,h8_1,h8_2,h8_3,h8_4,h8_5,h8_6,h8_7,h8_8,-⟩:=hp
 obtain⟨g8_7,b8_7,a8_7,n8_7,c8_7,ev8_7,er8_7,hg8_7,p8_7⟩:=h8_7
 replace ev8_7:vs 6=_:=ev8_7;replace er8_7:vs 4=_:=er8_7;replace h8_4:=(show Zw W8 (vs 4) (nearR (x*P2 K)) from h8_4)
 rw[er8_7]at h8_4
 replace h8_0:vs 0=.agg #[.bool b1,.slice a1 n1 c1,.slice d1 m1 o1]:=h8_0
 replace h8_1:vs 1=.int .i64 (K:Int):=h8_1
 replace h8_5:vs 5=.int .i64 0:=h8_5
 replace h8_8:vs 8=.int .i64 0:=h8_8
 simp only[ev8_7,er8_7,h8_0,h8_1,h8_5,h8_8]
 clear ev8_7 er8_7 h8_0 h8_1 h8_5 h8_8 h8_2 h8_3 h8_6
 cases hfit:fits (nearR (x*P2 K))
 ·have HV2:Hid (fitV (nearR (x*P2 K))=0):=Lib.hid (fitV_out hfit)
  have HE2:Hid (fitE (nearR (x*P2 K))=2):=Lib.hid (fitE_out hfit)
  have HFT:=Lib.hid hfit
  clear hfit
  obtain⟨kp2_0,kp2_1,kp2_2⟩:=p2.c3
  obtain⟨kp8_7_0,kp8_7_1⟩:=p8_7.c2
  go_wp2_with fail
  clear kp2_0 kp2_1 kp2_2 kp8_7_0 kp8_7_1
  refine(Tryz.zedInt h8_4).mono ?_
  rintro e Wz ⟨rfl,hE⟩
  rw[HV2.out,HFT.out]
  replace E0:=(Ext.trans E0 hE);replace h1:=(h1.ext hE);replace p2:=(p2.ext hE);replace h8_4:=(h8_4.ext hE);replace p8_7:=(p8_7.ext hE);clear hE;go_wp2;go_ret2
  exact⟨by rw[← HV.out,← HEE.out,HV2.out,HE2.out];rfl,E0⟩
 ·have HV2:Hid (fitV (nearR (x*P2 K))=nearR (x*P2 K)):=Lib.hid (fitV_in hfit)
  have HE2:Hid (fitE (nearR (x*P2 K))=0):=Lib.hid (fitE_in hfit)
  have HFT:=Lib.hid hfit
  clear hfit
  obtain⟨kp2_0,kp2_1,kp2_2⟩:=p2.c3
  obtain⟨kp8_7_0,kp8_7_1⟩:=p8_7.c2
  go_wp2_with fail
  clear kp2_0 kp2_1 kp2_2 kp8_7_0 kp8_7_1
  refine(Tryz.zedInt h8_4).mono ?_
  rintro e Wz ⟨rfl,hE⟩
  rw[HV2.out,HFT.out]
  replace E0:=(Ext.trans E0 hE);replace h1:=(h1.ext hE);replace p2:=(p2.ext hE);replace h8_4:=(h8_4.ext hE);replace p8_7:=(p8_7.ext hE);clear hE;go_wp2;go_ret2
  exact⟨by rw[← HV.out,← HEE.out,HV2.out,HE2.out];rfl,E0⟩
end Go.Rt
