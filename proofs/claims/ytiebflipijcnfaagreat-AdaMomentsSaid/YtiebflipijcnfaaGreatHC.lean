/-
  The laws of chapter 08 (numbers of a fixed point): Agree, Sides, Order: their walks.
  Numbers of a fixed point by definition (chapter 08's answer).
  Numbers of a fixed point by definition: products, quotients, scaled, roots.
-/
import Derived.Test.YtiebflipijcnfaaGreatGX
namespace Go.Rt
open Go.RowKit Go.Proofs
end Go.Rt
namespace Go.Rt
open Go.RowKit Go.Proofs
set_option maxHeartbeats 400000 in
theorem Tryz.refFrac08 (f:Int) (w:World):Calls Tryz.prog 95 #[.int .i64 f] w fun e w'=>e=.returned (.bool (fracB f))∧w=w':=by
 by_cases h1:0≤f
 ·by_cases h2:f≤40
  ·have HR:Hid (true=fracB f):=Lib.hid (decide_eq_true (p:=0≤f∧f≤40) ⟨h1,h2⟩).symm
   go_enter Tryz.func95,Tryz.ntmps95
   go_wp2
   all_goals go_ret
   all_goals exact⟨ret_b HR.out,rfl⟩
  ·have HR:Hid (false=fracB f):=Lib.hid (decide_eq_false (p:=0≤f∧f≤40) (fun h=>h2 h.2)).symm
   have h2':decide (f≤40)=false:=decide_eq_false h2
   go_enter Tryz.func95,Tryz.ntmps95
   go_wp2
   all_goals go_ret
   all_goals exact⟨ret_b HR.out,rfl⟩
 ·have HR:Hid (false=fracB f):=Lib.hid (decide_eq_false (p:=0≤f∧f≤40) (fun h=>h1 h.1)).symm
  have h1':decide (0≤f)=false:=decide_eq_false h1
  go_enter Tryz.func95,Tryz.ntmps95
  go_wp2
  all_goals go_ret
  all_goals exact⟨ret_b HR.out,rfl⟩
set_option maxRecDepth 100000 in
set_option maxHeartbeats 4000000 in
theorem Tryz.ref08Rat (a:Int) (K:Nat) (hK:K≤40) (w:World) (ha1:-9223372036854775808≤a) (ha2:a < 9223372036854775808):
  Calls Tryz.prog 60 #[.int .i64 a,.int .i64 (K:Int)] w fun e w'=>∃ v',e=.returned (.tuple #[v',.int .i64 0])∧Rw w' v' ((a:Rat) / P2 K)∧Ext w w':=by
 have hKF:fracB (K:Int)=true:=decide_eq_true (by omega)
 have S1:Hid (Sm 1 a.natAbs):=Lib.hid (Sm.small (by omega))
 have HK:=Lib.hid (show K≤2000 by omega)
 have HB:=Lib.hid (And.intro ha1 ha2)
 clear ha1 ha2 hK
 obtain⟨W0,hW0,E0,p4⟩:=boxed1 w 45 #[.bool false,.slice none 0 0,.slice none 0 0]
 replace p4:=p4.b3
 go_enter Tryz.func60,Tryz.ntmps60
 obtain⟨k4a,k4b,k4c⟩:=p4.c3
 go_wp2_with fail
 rw[← hW0]
 clear hW0;clear k4a k4b k4c
 refine(Tryz.refFrac08 (K:Int) _).mono ?_
 rintro e Wc ⟨rfl,rfl⟩
 rw[hKF]
 obtain⟨k4a,k4b,k4c⟩:=p4.c3
 go_upto_region 3 with (fail)
 clear k4a k4b k4c;have fp4:=p4.form;have ltfp4:=fp4.lt;have szw7:=Ext.size E0
 refine region_gs [isV (.int .i64 a),
   .one fun v W=>Zw W v a,
   isV (.int .i64 (K:Int)),
   .one fun v W=>∃ v',v=.tuple #[v',.int .i64 0]∧(fun v W=>Rw W v ((a:Rat) / P2 K)) v' W,
   .one fun v W=>Rw W v ((a:Rat) / P2 K),
   isV (.int .i64 0),
   .two 4 (fun r _ W=>At3 w.heap.size 45 r W),
   isV (.int .i64 0)]
  (fun W=>Ext w W∧Form W w.heap.size 45 3∧W0.heap.size≤W.heap.size) ⟨Good.is _,Good.zed _,Good.is _,(Good.rat _).tup _,Good.rat _,Good.is _,cert_at3,Good.is _,trivial⟩
  ⟨E0,fp4,Nat.le_refl _⟩ (A:=?A7) ?hA7 ?howe7 ?hfin7
 case hA7=>
  intro vs
  simp only[putAll,Act.put,sA,sZ,sS,Nat.zero_add,Nat.reduceAdd]
  exact rfl
 case howe7=>
  clear E0 fp4
  intro hf
  refine⟨oP0 0 [] hf rfl,oE 1 [0] hf rfl ?_,oP0 2 [] hf rfl,oE 3 [1,2] hf rfl ?_,oE 4 [3] hf rfl ?_,oE 5 [3] hf rfl ?_,oW 6 [4] hf rfl ?_,oP1 7 [5] hf rfl,trivial⟩
  all_goals intro vs W hS hp hx KO hKO
  all_goals simp only[Act.put,sA,sZ,sS]at hKO
  ·have e0:=isOf hp.1;simp only[e0]at hKO;go_simp
   refine(Tryz.refZOf a _ HB.out.1 HB.out.2).mono ?_
   rintro e W1 ⟨v,rfl,hv,hE⟩
   exact hKO _ W1 hE hv
  ·have q1:=hp.1;have e2:=isOf hp.2.1;simp only[e2]at hKO;go_simp
   refine(Tryz.refBack q1 S1.out (by omega) K HK.out).mono ?_
   rintro e W1 ⟨v,rfl,hv,hE⟩
   exact hKO _ W1 hE ⟨_,rfl,hv⟩
  ·have q3:=hp.1
   obtain⟨u,ev,hu⟩:=q3
   replace ev:vs 3=_:=ev;simp only[ev]at hKO;go_simp;exact hKO _ W (Ext.refl W) hu
  ·have q3:=hp.1
   obtain⟨u,ev,hu⟩:=q3
   replace ev:vs 3=_:=ev;simp only[ev]at hKO;go_simp;exact hKO _ W (.refl W) rfl
  ·have q4:=hp.1
   have hf:=hS.2.1
   obtain⟨x0,y0,z0,hx,hno⟩:=hf.bx3
   have qr:=q4
   obtain⟨b3,a3,n3,c3,d3,m3,o3,er,-,-,-⟩:=qr
   replace er:vs 4=_:=er
   have r0:=hx.froz0
   have t0:=hx.cell0
   have r1:=hx.froz1
   have t1:=hx.cell1
   have r2:=hx.froz2
   have t2:=hx.cell2
   have hw:=Wr.set3 hx hno b3 a3 n3 c3 d3 m3 o3
   have hq:=hx.set (.bool b3) (.slice a3 n3 c3) (.slice d3 m3 o3)
   have hg:w.heap.size≤w.heap.size:=Nat.le_refl _
   simp only[er]at hKO;go_simp
   exact hKO _ _ hw ⟨(Ext.wr hS.1 hw (by omega)),(hS.2.1.wr hw),(Nat.le_trans hS.2.2 hw.apart.size)⟩ ⟨b3,a3,n3,c3,d3,m3,o3,er,hq⟩
 intro vs W7 hS hp
 clear szw7 E0 fp4
 obtain⟨E0,fp4,sz7⟩:=hS
 obtain⟨h7_0,h7_1,h7_2,h7_3,h7_4,h7_5,h7_6,h7_7,-⟩:=hp
 obtain⟨b7_6,a7_6,n7_6,c7_6,d7_6,m7_6,o7_6,er7_6,p7_6⟩:=h7_6
 replace er7_6:vs 4=_:=er7_6;replace h7_4:=(show Rw W7 (vs 4) ((a:Rat) / P2 K) from h7_4)
 rw[er7_6]at h7_4
 simp only[er7_6,isOf h7_0,isOf h7_2,isOf h7_5,isOf h7_7]
 replace h7_1:Zw W7 (vs 1) a:=h7_1
 generalize vs 1=u7_1 at h7_1 ⊢
 clear er7_6 h7_0 h7_2 h7_5 h7_7 h7_3
 obtain⟨k7_6a,k7_6b,k7_6c⟩:=p7_6.c3
 go_wp2
 exact bodyPost_ret (v:=.tuple #[.agg #[.bool b7_6,.slice a7_6 n7_6 c7_6,.slice d7_6 m7_6 o7_6],.int .i64 0]) (by simp[results,Tryz.results60,go_sem,k7_6a,k7_6b,k7_6c]) rfl ⟨_,rfl,h7_4,E0⟩
end Go.Rt
namespace Go.Rt
open Go.RowKit Go.Proofs
theorem SmR.backP {a:Int} (h:Sm 1 a.natAbs) {K:Nat} (hK:K≤41):SmR 2 ((a:Rat) / P2 K):=by
 rw[← back_eq]
 exact(SmR.back h K).mono (by omega)
end Go.Rt
