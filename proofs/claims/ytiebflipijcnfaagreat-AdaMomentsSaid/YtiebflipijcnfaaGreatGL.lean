/-
  The reference's fractions: Add, Mul, Sub, Div, Of.
  Contracts in the forms that the printed walks ask for.
  The reference's dyads: Back, Floor, Ceil.
-/
import Derived.Test.YtiebflipijcnfaaGreatGJ
namespace Go.Rt
open Go.RowKit Go.Proofs
set_option maxRecDepth 100000 in
set_option maxHeartbeats 400000 in
theorem Tryz.refRAdd {v1 v2:Value} {x y:Rat} {L:Nat} {w:World} (h1:Rw w v1 x) (h2:Rw w v2 y) (s1:SmR L x) (s2:SmR L y) (hL:L≤140):
  Calls Tryz.prog 30 #[v1,v2] w fun e w'=>∃ v',e=.returned v'∧Rw w' v' (x+y)∧Ext w w':=by
 obtain⟨b1,a1,n1,c1,d1,m1,o1,rfl,q1⟩:∃ b a n c d m o,v1=.agg #[.bool b,.slice a n c,.slice d m o]∧True:=let ⟨b,a,n,c,d,m,o,e,_⟩:=h1;⟨b,a,n,c,d,m,o,e,trivial⟩
 clear q1
 obtain⟨b2,a2,n2,c2,d2,m2,o2,rfl,q2⟩:∃ b a n c d m o,v2=.agg #[.bool b,.slice a n c,.slice d m o]∧True:=let ⟨b,a,n,c,d,m,o,e,_⟩:=h2;⟨b,a,n,c,d,m,o,e,trivial⟩
 clear q2
 obtain⟨X,hX⟩:∃ X,X=x.num*(y.den:Int):=⟨_,rfl⟩
 obtain⟨Y,hY⟩:∃ Y,Y=y.num*(x.den:Int):=⟨_,rfl⟩
 obtain⟨D,hD⟩:∃ D,D=x.den*y.den:=⟨_,rfl⟩
 have HX:=Lib.hid hX
 have HY:=Lib.hid hY
 have HD:=Lib.hid hD
 have SX:Hid (Sm (L+L) X.natAbs):=Lib.hid (by rw[hX,Int.natAbs_mul];exact s1.1.mul s2.2)
 have SY:Hid (Sm (L+L) Y.natAbs):=Lib.hid (by rw[hY,Int.natAbs_mul];exact s2.1.mul s1.2)
 have SXY:Hid (Sm (L+L+1) (X+Y).natAbs):=Lib.hid ((SX.out.add SY.out).le (by omega))
 have SD:Hid (Sm (L+L+1) D):=Lib.hid (by rw[hD];exact(s1.2.mul s2.2).mono (by omega))
 have HD0:Hid (D≠0):=Lib.hid (by rw[hD];exact Nat.mul_ne_zero x.den_nz y.den_nz)
 have HR:Hid (mkRat (X+Y) D=x+y):=Lib.hid (by rw[hX,hY,hD];exact Rat.add_mk x y)
 rw[← HR.out]
 clear hX hY hD
 obtain⟨W0,hW0,E0,p2,p3,p4⟩:=boxed3 w 45 #[.bool b1,.slice a1 n1 c1,.slice d1 m1 o1] 45 #[.bool b2,.slice a2 n2 c2,.slice d2 m2 o2] 45 #[.bool false,.slice none 0 0,.slice none 0 0]
 replace p2:=p2.b3
 replace p3:=p3.b3
 replace p4:=p4.b3
 replace h1:Rw W0 (.agg #[.bool b1,.slice a1 n1 c1,.slice d1 m1 o1]) x:=h1.ext E0
 replace h2:Rw W0 (.agg #[.bool b2,.slice a2 n2 c2,.slice d2 m2 o2]) y:=h2.ext E0
 go_enter Tryz.func30,Tryz.ntmps30
 obtain⟨k2a,k2b,k2c⟩:=p2.c3
 obtain⟨k3a,k3b,k3c⟩:=p3.c3
 obtain⟨k4a,k4b,k4c⟩:=p4.c3
 go_upto_region 1 with (fail)
 rw[← hW0]
 clear hW0;clear k2a k2b k2c k3a k3b k3c k4a k4b k4c;have ltp2:=p2.lt;have ltp3:=p3.lt;have ltp4:=p4.lt;have szw1:=Ext.size E0
 refine region_gs [isV (.pointer (some ⟨w.heap.size,0,none⟩)),isV (.agg #[.bool b1,.slice a1 n1 c1]),isV (.pointer (some ⟨w.heap.size+1,2,none⟩)),isV (.slice d2 m2 o2),
   .one fun v W=>Zw W v X,
   isV (.pointer (some ⟨w.heap.size+1,0,none⟩)),isV (.agg #[.bool b2,.slice a2 n2 c2]),isV (.pointer (some ⟨w.heap.size,2,none⟩)),isV (.slice d1 m1 o1),
   .one fun v W=>Zw W v Y,
   .one fun v W=>Zw W v (X+Y),
   isV (.pointer (some ⟨w.heap.size,2,none⟩)),isV (.slice d1 m1 o1),isV (.pointer (some ⟨w.heap.size+1,2,none⟩)),isV (.slice d2 m2 o2),
   .one fun v W=>Nw W v D,
   .one fun v W=>∃ v',v=.tuple #[v',.int .i64 0]∧(fun v W=>Rw W v (mkRat (X+Y) D)) v' W,
   .one fun v W=>∃ v',v=.tuple #[v',.int .i64 0]∧(fun v W=>Rw W v (mkRat (X+Y) D)) v' W,
   .one fun v W=>Rw W v (mkRat (X+Y) D),
   isV (.int .i64 0),
   .one fun v W=>∃ g,v=.pointer (some ⟨g,0,none⟩)∧W0.heap.size≤g∧Form W g 45 3,
   .three 20 18 (fun p r _ W=>Put3 W0.heap.size 45 p r W),
   isV (.int .i64 0)]
  (fun W=>Ext w W∧Rw W (.agg #[.bool b1,.slice a1 n1 c1,.slice d1 m1 o1]) x∧Rw W (.agg #[.bool b2,.slice a2 n2 c2,.slice d2 m2 o2]) y∧Bx3 W w.heap.size 45 (.bool b1) (.slice a1 n1 c1) (.slice d1 m1 o1)∧Bx3 W (w.heap.size+1) 45 (.bool b2) (.slice a2 n2 c2) (.slice d2 m2 o2)∧Bx3 W (w.heap.size+1+1) 45 (.bool false) (.slice none 0 0) (.slice none 0 0)∧W0.heap.size≤W.heap.size) ⟨Good.is _,Good.is _,Good.is _,Good.is _,Good.zed _,Good.is _,Good.is _,Good.is _,Good.is _,Good.zed _,Good.zed _,Good.is _,Good.is _,Good.is _,Good.is _,Good.num _,(Good.rat _).tup _,(Good.rat _).tup _,Good.rat _,Good.is _,Good.box _ _ _,cert_put3,Good.is _,trivial⟩
  ⟨E0,h1,h2,p2,p3,p4,Nat.le_refl _⟩ (A:=?A1) ?hA1 ?howe1 ?hfin1
 case hA1=>
  intro vs
  simp only[putAll,Act.put,sA,sZ,sS,Nat.zero_add,Nat.reduceAdd]
  exact rfl
 case howe1=>
  clear E0 h1 h2 p2 p3 p4
  intro hf
  refine⟨oP0 0 [] hf rfl,oE 1 [0] hf rfl ?_,oP0 2 [] hf rfl,oE 3 [2] hf rfl ?_,oE 4 [1,3] hf rfl ?_,oP0 5 [] hf rfl,oE 6 [5] hf rfl ?_,oP0 7 [] hf rfl,oE 8 [7] hf rfl ?_,oE 9 [6,8] hf rfl ?_,oE 10 [4,9] hf rfl ?_,oP0 11 [] hf rfl,oE 12 [11] hf rfl ?_,oP0 13 [] hf rfl,oE 14 [13] hf rfl ?_,oE 15 [12,14] hf rfl ?_,oE 16 [10,15] hf rfl ?_,oE 17 [16] hf rfl ?_,oE 18 [17] hf rfl ?_,oE 19 [17] hf rfl ?_,oE 20 [] hf rfl ?_,oW 21 [20,18] hf rfl ?_,oP1 22 [19] hf rfl,trivial⟩
  all_goals intro vs W hS hp hx KO hKO
  all_goals simp only[Act.put,sA,sZ,sS]at hKO
  ·have e0:=isOf hp.1;simp only[e0]at hKO;have fc0:=hS.2.2.2.1.cell0;have fc1:=hS.2.2.2.1.cell1;go_simp;exact hKO _ W (.refl W) rfl
  ·have e2:=isOf hp.1;simp only[e2]at hKO;have fc2:=hS.2.2.2.2.1.cell2;go_simp;exact hKO _ W (.refl W) rfl
  ·have e1:=isOf hp.1;have e3:=isOf hp.2.1;simp only[e1,e3]at hKO;go_simp
   refine(Tryz.refROver (hS.2.1.top) (hS.2.2.1.den) s1.1 s2.2 (by omega)).mono ?_
   rintro e W1 ⟨v,rfl,hv,hE⟩
   rw[← HX.out]at hv
   exact hKO _ W1 hE hv
  ·have e5:=isOf hp.1;simp only[e5]at hKO;have fc0:=hS.2.2.2.2.1.cell0;have fc1:=hS.2.2.2.2.1.cell1;go_simp;exact hKO _ W (.refl W) rfl
  ·have e7:=isOf hp.1;simp only[e7]at hKO;have fc2:=hS.2.2.2.1.cell2;go_simp;exact hKO _ W (.refl W) rfl
  ·have e6:=isOf hp.1;have e8:=isOf hp.2.1;simp only[e6,e8]at hKO;go_simp
   refine(Tryz.refROver (hS.2.2.1.top) (hS.2.1.den) s2.1 s1.2 (by omega)).mono ?_
   rintro e W1 ⟨v,rfl,hv,hE⟩
   rw[← HY.out]at hv
   exact hKO _ W1 hE hv
  ·have q4:=hp.1;have q9:=hp.2.1;go_simp
   refine(Tryz.refZAdd q4 q9 SX.out SY.out (by omega)).mono ?_
   rintro e W1 ⟨v,rfl,hv,hE⟩
   exact hKO _ W1 hE hv
  ·have e11:=isOf hp.1;simp only[e11]at hKO;have fc2:=hS.2.2.2.1.cell2;go_simp;exact hKO _ W (.refl W) rfl
  ·have e13:=isOf hp.1;simp only[e13]at hKO;have fc2:=hS.2.2.2.2.1.cell2;go_simp;exact hKO _ W (.refl W) rfl
  ·have e12:=isOf hp.1;have e14:=isOf hp.2.1;simp only[e12,e14]at hKO;go_simp
   refine(Tryz.refMul (hS.2.1.den) (hS.2.2.1.den) s1.2 s2.2 (by omega)).mono ?_
   rintro e W1 ⟨v,rfl,hv,hE,-⟩
   rw[← HD.out]at hv
   exact hKO _ W1 hE hv
  ·have q10:=hp.1;have q15:=hp.2.1;go_simp
   refine(Tryz.refRMake q10 q15 SXY.out SD.out (by omega) HD0.out).mono ?_
   rintro e W1 ⟨v,rfl,hv,hE⟩
   exact hKO _ W1 hE ⟨_,rfl,hv⟩
  ·have q16:=hp.1
   obtain⟨u,ev,hu⟩:=q16
   replace ev:vs 16=_:=ev;simp only[ev]at hKO;go_simp;exact hKO _ W (Ext.refl W) ⟨u,rfl,hu⟩
  ·have q17:=hp.1
   obtain⟨u,ev,hu⟩:=q17
   replace ev:vs 17=_:=ev;simp only[ev]at hKO;go_simp;exact hKO _ W (Ext.refl W) hu
  ·have q17:=hp.1
   obtain⟨u,ev,hu⟩:=q17
   replace ev:vs 17=_:=ev;simp only[ev]at hKO;go_simp;exact hKO _ W (.refl W) rfl
  ·have hn:=Bx3.new W 45 (.bool false) (.slice none 0 0) (.slice none 0 0)
   have hE:=Ext.alloc1 W (.cells #[.bool false,.slice none 0 0,.slice none 0 0] 45)
   have hsz:=hS.2.2.2.2.2.2
   go_simp
   exact hKO _ _ hE ⟨_,rfl,hsz,hn.form⟩
  ·have q20:=hp.1;have q18:=hp.2.1
   obtain⟨g,ev,hg,hf⟩:=q20
   replace ev:vs 20=_:=ev
   obtain⟨x0,y0,z0,hx,hno⟩:=hf.bx3
   have qr:=q18
   obtain⟨b3,a3,n3,c3,d3,m3,o3,er,-,-,-⟩:=qr
   replace er:vs 18=_:=er
   have r0:=hx.froz0
   have t0:=hx.cell0
   have r1:=hx.froz1
   have t1:=hx.cell1
   have r2:=hx.froz2
   have t2:=hx.cell2
   have hw:=Wr.set3 hx hno b3 a3 n3 c3 d3 m3 o3
   have hq:=hx.set (.bool b3) (.slice a3 n3 c3) (.slice d3 m3 o3)
   simp only[ev,er]at hKO;go_simp
   exact hKO _ _ hw ⟨(Ext.wr hS.1 hw (by omega)),(hS.2.1.wr hw),(hS.2.2.1.wr hw),(hS.2.2.2.1.wr hw (by omega)),(hS.2.2.2.2.1.wr hw (by omega)),(hS.2.2.2.2.2.1.wr hw (by omega)),(Nat.le_trans hS.2.2.2.2.2.2 hw.apart.size)⟩ ⟨g,b3,a3,n3,c3,d3,m3,o3,ev,er,hg,hq⟩
 intro vs W1 hS hp
 clear szw1 E0 h1 h2 p2 p3 p4
 obtain⟨E0,h1,h2,p2,p3,p4,sz1⟩:=hS
 obtain⟨h1_0,h1_1,h1_2,h1_3,h1_4,h1_5,h1_6,h1_7,h1_8,h1_9,h1_10,h1_11,h1_12,h1_13,h1_14,h1_15,h1_16,h1_17,h1_18,h1_19,h1_20,h1_21,h1_22,-⟩:=hp
 obtain⟨g1_21,b1_21,a1_21,n1_21,c1_21,d1_21,m1_21,o1_21,ev1_21,er1_21,hg1_21,p1_21⟩:=h1_21
 replace ev1_21:vs 20=_:=ev1_21;replace er1_21:vs 18=_:=er1_21;replace h1_18:=(show Rw W1 (vs 18) (mkRat (X+Y) D) from h1_18)
 rw[er1_21]at h1_18
 simp only[ev1_21,er1_21,isOf h1_0,isOf h1_1,isOf h1_2,isOf h1_3,isOf h1_5,isOf h1_6,isOf h1_7,isOf h1_8,isOf h1_11,isOf h1_12,isOf h1_13,isOf h1_14,isOf h1_19,isOf h1_22]
 replace h1_4:Zw W1 (vs 4) X:=h1_4
 generalize vs 4=u1_4 at h1_4 ⊢
 replace h1_9:Zw W1 (vs 9) Y:=h1_9
 generalize vs 9=u1_9 at h1_9 ⊢
 replace h1_10:Zw W1 (vs 10) (X+Y):=h1_10
 generalize vs 10=u1_10 at h1_10 ⊢
 replace h1_15:Nw W1 (vs 15) D:=h1_15
 generalize vs 15=u1_15 at h1_15 ⊢
 obtain⟨k2a,k2b,k2c⟩:=p2.c3
 obtain⟨k3a,k3b,k3c⟩:=p3.c3
 obtain⟨k4a,k4b,k4c⟩:=p4.c3
 obtain⟨k1_21a,k1_21b,k1_21c⟩:=p1_21.c3
 go_upto_region 2 with (fail)
 clear k2a k2b k2c k3a k3b k3c k4a k4b k4c k1_21a k1_21b k1_21c;have fp4:=p4.form;have ltp1_21:=p1_21.lt;have szw2:=Ext.size E0
 refine region_gs [isV (.agg #[.bool b1_21,.slice a1_21 n1_21 c1_21,.slice d1_21 m1_21 o1_21]),
   .own fun W=>Bx3 W (w.heap.size+1+1) 45 (.bool b1_21) (.slice a1_21 n1_21 c1_21) (.slice d1_21 m1_21 o1_21)]
  (fun W=>Ext w W∧Rw W (.agg #[.bool b1,.slice a1 n1 c1,.slice d1 m1 o1]) x∧Rw W (.agg #[.bool b2,.slice a2 n2 c2,.slice d2 m2 o2]) y∧Bx3 W w.heap.size 45 (.bool b1) (.slice a1 n1 c1) (.slice d1 m1 o1)∧Bx3 W (w.heap.size+1) 45 (.bool b2) (.slice a2 n2 c2) (.slice d2 m2 o2)∧Form W (w.heap.size+1+1) 45 3∧Rw W (.agg #[.bool b1_21,.slice a1_21 n1_21 c1_21,.slice d1_21 m1_21 o1_21]) (mkRat (X+Y) D)∧Bx3 W g1_21 45 (.bool b1_21) (.slice a1_21 n1_21 c1_21) (.slice d1_21 m1_21 o1_21)∧Zw W u1_4 X∧Zw W u1_9 Y∧Zw W u1_10 (X+Y)∧Nw W u1_15 D∧W1.heap.size≤W.heap.size) ⟨Good.is _,cert_bx3,trivial⟩
  ⟨E0,h1,h2,p2,p3,fp4,h1_18,p1_21,h1_4,h1_9,h1_10,h1_15,Nat.le_refl _⟩ (A:=?A2) ?hA2 ?howe2 ?hfin2
 case hA2=>
  intro vs
  simp only[putAll,Act.put,sA,sZ,sS]
  exact rfl
 case howe2=>
  clear E0 h1 h2 p2 p3 fp4 h1_18 p1_21 h1_4 h1_9 h1_10 h1_15
  intro hf
  refine⟨oE 0 [] hf rfl ?_,oW 1 [0] hf rfl ?_,trivial⟩
  all_goals intro vs W hS hp hx KO hKO
  all_goals simp only[Act.put,sA,sZ,sS]at hKO
  ·have fc0:=hS.2.2.2.2.2.2.2.1.cell0;have fc1:=hS.2.2.2.2.2.2.2.1.cell1;have fc2:=hS.2.2.2.2.2.2.2.1.cell2;go_simp;exact hKO _ W (.refl W) rfl
  ·have e0:=isOf hp.1;simp only[e0]at hKO
   have hf:=hS.2.2.2.2.2.1
   obtain⟨x0,y0,z0,hx,hno⟩:=hf.bx3
   have r0:=hx.froz0
   have t0:=hx.cell0
   have r1:=hx.froz1
   have t1:=hx.cell1
   have r2:=hx.froz2
   have t2:=hx.cell2
   have hw:=Wr.set3 hx hno b1_21 a1_21 n1_21 c1_21 d1_21 m1_21 o1_21
   have hq:=hx.set (.bool b1_21) (.slice a1_21 n1_21 c1_21) (.slice d1_21 m1_21 o1_21)
   have hg:(w.heap.size+1+1)≤(w.heap.size+1+1):=Nat.le_refl _
   go_simp
   exact hKO _ _ hw ⟨(Ext.wr hS.1 hw (by omega)),(hS.2.1.wr hw),(hS.2.2.1.wr hw),(hS.2.2.2.1.wr hw (by omega)),(hS.2.2.2.2.1.wr hw (by omega)),(hS.2.2.2.2.2.1.wr hw),(hS.2.2.2.2.2.2.1.wr hw),(hS.2.2.2.2.2.2.2.1.wr hw (by omega)),(hS.2.2.2.2.2.2.2.2.1.wr hw),(hS.2.2.2.2.2.2.2.2.2.1.wr hw),(hS.2.2.2.2.2.2.2.2.2.2.1.wr hw),(hS.2.2.2.2.2.2.2.2.2.2.2.1.wr hw),(Nat.le_trans hS.2.2.2.2.2.2.2.2.2.2.2.2 hw.apart.size)⟩ hq
 intro vs W2 hS hp
 clear szw2 E0 h1 h2 p2 p3 fp4 h1_18 p1_21 h1_4 h1_9 h1_10 h1_15
 obtain⟨E0,h1,h2,p2,p3,fp4,h1_18,p1_21,h1_4,h1_9,h1_10,h1_15,sz2⟩:=hS
 obtain⟨h2_0,h2_1,-⟩:=hp
 have p2_1:Bx3 W2 (w.heap.size+1+1) 45 (.bool b1_21) (.slice a1_21 n1_21 c1_21) (.slice d1_21 m1_21 o1_21):=h2_1
 simp only[isOf h2_0]
 obtain⟨k2a,k2b,k2c⟩:=p2.c3
 obtain⟨k3a,k3b,k3c⟩:=p3.c3
 obtain⟨k1_21a,k1_21b,k1_21c⟩:=p1_21.c3
 obtain⟨k2_1a,k2_1b,k2_1c⟩:=p2_1.c3
 go_wp2
 exact bodyPost_ret (v:=.agg #[.bool b1_21,.slice a1_21 n1_21 c1_21,.slice d1_21 m1_21 o1_21]) (by simp[results,Tryz.results30,go_sem,k2_1a,k2_1b,k2_1c]) rfl ⟨_,rfl,h1_18,E0⟩
set_option maxRecDepth 100000 in
set_option maxHeartbeats 400000 in
theorem Tryz.refRMul {v1 v2:Value} {x y:Rat} {L:Nat} {w:World} (h1:Rw w v1 x) (h2:Rw w v2 y) (s1:SmR L x) (s2:SmR L y) (hL:L≤140):
  Calls Tryz.prog 31 #[v1,v2] w fun e w'=>∃ v',e=.returned v'∧Rw w' v' (x*y)∧Ext w w':=by
 obtain⟨b1,a1,n1,c1,d1,m1,o1,rfl,q1⟩:∃ b a n c d m o,v1=.agg #[.bool b,.slice a n c,.slice d m o]∧True:=let ⟨b,a,n,c,d,m,o,e,_⟩:=h1;⟨b,a,n,c,d,m,o,e,trivial⟩
 clear q1
 obtain⟨b2,a2,n2,c2,d2,m2,o2,rfl,q2⟩:∃ b a n c d m o,v2=.agg #[.bool b,.slice a n c,.slice d m o]∧True:=let ⟨b,a,n,c,d,m,o,e,_⟩:=h2;⟨b,a,n,c,d,m,o,e,trivial⟩
 clear q2
 obtain⟨X,hX⟩:∃ X,X=x.num*y.num:=⟨_,rfl⟩
 obtain⟨D,hD⟩:∃ D,D=x.den*y.den:=⟨_,rfl⟩
 have HX:=Lib.hid hX
 have HD:=Lib.hid hD
 have SX:Hid (Sm (L+L) X.natAbs):=Lib.hid (by rw[hX,Int.natAbs_mul];exact s1.1.mul s2.1)
 have SD:Hid (Sm (L+L) D):=Lib.hid (by rw[hD];exact s1.2.mul s2.2)
 have HD0:Hid (D≠0):=Lib.hid (by rw[hD];exact Nat.mul_ne_zero x.den_nz y.den_nz)
 have HR:Hid (mkRat X D=x*y):=Lib.hid (by rw[hX,hD];exact Rat.mul_mk x y)
 rw[← HR.out]
 clear hX hD
 obtain⟨W0,hW0,E0,p2,p3,p4⟩:=boxed3 w 45 #[.bool b1,.slice a1 n1 c1,.slice d1 m1 o1] 45 #[.bool b2,.slice a2 n2 c2,.slice d2 m2 o2] 45 #[.bool false,.slice none 0 0,.slice none 0 0]
 replace p2:=p2.b3
 replace p3:=p3.b3
 replace p4:=p4.b3
 replace h1:Rw W0 (.agg #[.bool b1,.slice a1 n1 c1,.slice d1 m1 o1]) x:=h1.ext E0
 replace h2:Rw W0 (.agg #[.bool b2,.slice a2 n2 c2,.slice d2 m2 o2]) y:=h2.ext E0
 go_enter Tryz.func31,Tryz.ntmps31
 obtain⟨k2a,k2b,k2c⟩:=p2.c3
 obtain⟨k3a,k3b,k3c⟩:=p3.c3
 obtain⟨k4a,k4b,k4c⟩:=p4.c3
 go_upto_region 1 with (fail)
 rw[← hW0]
 clear hW0;clear k2a k2b k2c k3a k3b k3c k4a k4b k4c;have ltp2:=p2.lt;have ltp3:=p3.lt;have ltp4:=p4.lt;have szw3:=Ext.size E0
 refine region_gs [isV (.pointer (some ⟨w.heap.size,0,none⟩)),isV (.agg #[.bool b1,.slice a1 n1 c1]),isV (.pointer (some ⟨w.heap.size+1,0,none⟩)),isV (.agg #[.bool b2,.slice a2 n2 c2]),
   .one fun v W=>Zw W v X,
   isV (.pointer (some ⟨w.heap.size,2,none⟩)),isV (.slice d1 m1 o1),isV (.pointer (some ⟨w.heap.size+1,2,none⟩)),isV (.slice d2 m2 o2),
   .one fun v W=>Nw W v D,
   .one fun v W=>∃ v',v=.tuple #[v',.int .i64 0]∧(fun v W=>Rw W v (mkRat X D)) v' W,
   .one fun v W=>∃ v',v=.tuple #[v',.int .i64 0]∧(fun v W=>Rw W v (mkRat X D)) v' W,
   .one fun v W=>Rw W v (mkRat X D),
   isV (.int .i64 0),
   .one fun v W=>∃ g,v=.pointer (some ⟨g,0,none⟩)∧W0.heap.size≤g∧Form W g 45 3,
   .three 14 12 (fun p r _ W=>Put3 W0.heap.size 45 p r W),
   isV (.int .i64 0)]
  (fun W=>Ext w W∧Rw W (.agg #[.bool b1,.slice a1 n1 c1,.slice d1 m1 o1]) x∧Rw W (.agg #[.bool b2,.slice a2 n2 c2,.slice d2 m2 o2]) y∧Bx3 W w.heap.size 45 (.bool b1) (.slice a1 n1 c1) (.slice d1 m1 o1)∧Bx3 W (w.heap.size+1) 45 (.bool b2) (.slice a2 n2 c2) (.slice d2 m2 o2)∧Bx3 W (w.heap.size+1+1) 45 (.bool false) (.slice none 0 0) (.slice none 0 0)∧W0.heap.size≤W.heap.size) ⟨Good.is _,Good.is _,Good.is _,Good.is _,Good.zed _,Good.is _,Good.is _,Good.is _,Good.is _,Good.num _,(Good.rat _).tup _,(Good.rat _).tup _,Good.rat _,Good.is _,Good.box _ _ _,cert_put3,Good.is _,trivial⟩
  ⟨E0,h1,h2,p2,p3,p4,Nat.le_refl _⟩ (A:=?A3) ?hA3 ?howe3 ?hfin3
 case hA3=>
  intro vs
  simp only[putAll,Act.put,sA,sZ,sS,Nat.zero_add,Nat.reduceAdd]
  exact rfl
 case howe3=>
  clear E0 h1 h2 p2 p3 p4
  intro hf
  refine⟨oP0 0 [] hf rfl,oE 1 [0] hf rfl ?_,oP0 2 [] hf rfl,oE 3 [2] hf rfl ?_,oE 4 [1,3] hf rfl ?_,oP0 5 [] hf rfl,oE 6 [5] hf rfl ?_,oP0 7 [] hf rfl,oE 8 [7] hf rfl ?_,oE 9 [6,8] hf rfl ?_,oE 10 [4,9] hf rfl ?_,oE 11 [10] hf rfl ?_,oE 12 [11] hf rfl ?_,oE 13 [11] hf rfl ?_,oE 14 [] hf rfl ?_,oW 15 [14,12] hf rfl ?_,oP1 16 [13] hf rfl,trivial⟩
  all_goals intro vs W hS hp hx KO hKO
  all_goals simp only[Act.put,sA,sZ,sS]at hKO
  ·have e0:=isOf hp.1;simp only[e0]at hKO;have fc0:=hS.2.2.2.1.cell0;have fc1:=hS.2.2.2.1.cell1;go_simp;exact hKO _ W (.refl W) rfl
  ·have e2:=isOf hp.1;simp only[e2]at hKO;have fc0:=hS.2.2.2.2.1.cell0;have fc1:=hS.2.2.2.2.1.cell1;go_simp;exact hKO _ W (.refl W) rfl
  ·have e1:=isOf hp.1;have e3:=isOf hp.2.1;simp only[e1,e3]at hKO;go_simp
   refine(Tryz.refZMul (hS.2.1.top) (hS.2.2.1.top) s1.1 s2.1 (by omega)).mono ?_
   rintro e W1 ⟨v,rfl,hv,hE⟩
   rw[← HX.out]at hv
   exact hKO _ W1 hE hv
  ·have e5:=isOf hp.1;simp only[e5]at hKO;have fc2:=hS.2.2.2.1.cell2;go_simp;exact hKO _ W (.refl W) rfl
  ·have e7:=isOf hp.1;simp only[e7]at hKO;have fc2:=hS.2.2.2.2.1.cell2;go_simp;exact hKO _ W (.refl W) rfl
  ·have e6:=isOf hp.1;have e8:=isOf hp.2.1;simp only[e6,e8]at hKO;go_simp
   refine(Tryz.refMul (hS.2.1.den) (hS.2.2.1.den) s1.2 s2.2 (by omega)).mono ?_
   rintro e W1 ⟨v,rfl,hv,hE,-⟩
   rw[← HD.out]at hv
   exact hKO _ W1 hE hv
  ·have q4:=hp.1;have q9:=hp.2.1;go_simp
   refine(Tryz.refRMake q4 q9 SX.out SD.out (by omega) HD0.out).mono ?_
   rintro e W1 ⟨v,rfl,hv,hE⟩
   exact hKO _ W1 hE ⟨_,rfl,hv⟩
  ·have q10:=hp.1
   obtain⟨u,ev,hu⟩:=q10
   replace ev:vs 10=_:=ev;simp only[ev]at hKO;go_simp;exact hKO _ W (Ext.refl W) ⟨u,rfl,hu⟩
  ·have q11:=hp.1
   obtain⟨u,ev,hu⟩:=q11
   replace ev:vs 11=_:=ev;simp only[ev]at hKO;go_simp;exact hKO _ W (Ext.refl W) hu
  ·have q11:=hp.1
   obtain⟨u,ev,hu⟩:=q11
   replace ev:vs 11=_:=ev;simp only[ev]at hKO;go_simp;exact hKO _ W (.refl W) rfl
  ·have hn:=Bx3.new W 45 (.bool false) (.slice none 0 0) (.slice none 0 0)
   have hE:=Ext.alloc1 W (.cells #[.bool false,.slice none 0 0,.slice none 0 0] 45)
   have hsz:=hS.2.2.2.2.2.2
   go_simp
   exact hKO _ _ hE ⟨_,rfl,hsz,hn.form⟩
  ·have q14:=hp.1;have q12:=hp.2.1
   obtain⟨g,ev,hg,hf⟩:=q14
   replace ev:vs 14=_:=ev
   obtain⟨x0,y0,z0,hx,hno⟩:=hf.bx3
   have qr:=q12
   obtain⟨b3,a3,n3,c3,d3,m3,o3,er,-,-,-⟩:=qr
   replace er:vs 12=_:=er
   have r0:=hx.froz0
   have t0:=hx.cell0
   have r1:=hx.froz1
   have t1:=hx.cell1
   have r2:=hx.froz2
   have t2:=hx.cell2
   have hw:=Wr.set3 hx hno b3 a3 n3 c3 d3 m3 o3
   have hq:=hx.set (.bool b3) (.slice a3 n3 c3) (.slice d3 m3 o3)
   simp only[ev,er]at hKO;go_simp
   exact hKO _ _ hw ⟨(Ext.wr hS.1 hw (by omega)),(hS.2.1.wr hw),(hS.2.2.1.wr hw),(hS.2.2.2.1.wr hw (by omega)),(hS.2.2.2.2.1.wr hw (by omega)),(hS.2.2.2.2.2.1.wr hw (by omega)),(Nat.le_trans hS.2.2.2.2.2.2 hw.apart.size)⟩ ⟨g,b3,a3,n3,c3,d3,m3,o3,ev,er,hg,hq⟩
 intro vs W3 hS hp
 clear szw3 E0 h1 h2 p2 p3 p4
 obtain⟨E0,h1,h2,p2,p3,p4,sz3⟩:=hS
 obtain⟨h3_0,h3_1,h3_2,h3_3,h3_4,h3_5,h3_6,h3_7,h3_8,h3_9,h3_10,h3_11,h3_12,h3_13,h3_14,h3_15,h3_16,-⟩:=hp
 obtain⟨g3_15,b3_15,a3_15,n3_15,c3_15,d3_15,m3_15,o3_15,ev3_15,er3_15,hg3_15,p3_15⟩:=h3_15
 replace ev3_15:vs 14=_:=ev3_15;replace er3_15:vs 12=_:=er3_15;replace h3_12:=(show Rw W3 (vs 12) (mkRat X D) from h3_12)
 rw[er3_15]at h3_12
 simp only[ev3_15,er3_15,isOf h3_0,isOf h3_1,isOf h3_2,isOf h3_3,isOf h3_5,isOf h3_6,isOf h3_7,isOf h3_8,isOf h3_13,isOf h3_16]
 replace h3_4:Zw W3 (vs 4) X:=h3_4
 generalize vs 4=u3_4 at h3_4 ⊢
 replace h3_9:Nw W3 (vs 9) D:=h3_9
 generalize vs 9=u3_9 at h3_9 ⊢
 obtain⟨k2a,k2b,k2c⟩:=p2.c3
 obtain⟨k3a,k3b,k3c⟩:=p3.c3
 obtain⟨k4a,k4b,k4c⟩:=p4.c3
 obtain⟨k3_15a,k3_15b,k3_15c⟩:=p3_15.c3
 go_upto_region 2 with (fail)
 clear k2a k2b k2c k3a k3b k3c k4a k4b k4c k3_15a k3_15b k3_15c;have fp4:=p4.form;have ltp3_15:=p3_15.lt;have szw4:=Ext.size E0
 refine region_gs [isV (.agg #[.bool b3_15,.slice a3_15 n3_15 c3_15,.slice d3_15 m3_15 o3_15]),
   .own fun W=>Bx3 W (w.heap.size+1+1) 45 (.bool b3_15) (.slice a3_15 n3_15 c3_15) (.slice d3_15 m3_15 o3_15)]
  (fun W=>Ext w W∧Rw W (.agg #[.bool b1,.slice a1 n1 c1,.slice d1 m1 o1]) x∧Rw W (.agg #[.bool b2,.slice a2 n2 c2,.slice d2 m2 o2]) y∧Bx3 W w.heap.size 45 (.bool b1) (.slice a1 n1 c1) (.slice d1 m1 o1)∧Bx3 W (w.heap.size+1) 45 (.bool b2) (.slice a2 n2 c2) (.slice d2 m2 o2)∧Form W (w.heap.size+1+1) 45 3∧Rw W (.agg #[.bool b3_15,.slice a3_15 n3_15 c3_15,.slice d3_15 m3_15 o3_15]) (mkRat X D)∧Bx3 W g3_15 45 (.bool b3_15) (.slice a3_15 n3_15 c3_15) (.slice d3_15 m3_15 o3_15)∧Zw W u3_4 X∧Nw W u3_9 D∧W3.heap.size≤W.heap.size) ⟨Good.is _,cert_bx3,trivial⟩
  ⟨E0,h1,h2,p2,p3,fp4,h3_12,p3_15,h3_4,h3_9,Nat.le_refl _⟩ (A:=?A4) ?hA4 ?howe4 ?hfin4
 case hA4=>
  intro vs
  simp only[putAll,Act.put,sA,sZ,sS]
  exact rfl
 case howe4=>
  clear E0 h1 h2 p2 p3 fp4 h3_12 p3_15 h3_4 h3_9
  intro hf
  refine⟨oE 0 [] hf rfl ?_,oW 1 [0] hf rfl ?_,trivial⟩
  all_goals intro vs W hS hp hx KO hKO
  all_goals simp only[Act.put,sA,sZ,sS]at hKO
  ·have fc0:=hS.2.2.2.2.2.2.2.1.cell0;have fc1:=hS.2.2.2.2.2.2.2.1.cell1;have fc2:=hS.2.2.2.2.2.2.2.1.cell2;go_simp;exact hKO _ W (.refl W) rfl
  ·have e0:=isOf hp.1;simp only[e0]at hKO
   have hf:=hS.2.2.2.2.2.1
   obtain⟨x0,y0,z0,hx,hno⟩:=hf.bx3
   have r0:=hx.froz0
   have t0:=hx.cell0
   have r1:=hx.froz1
   have t1:=hx.cell1
   have r2:=hx.froz2
   have t2:=hx.cell2
   have hw:=Wr.set3 hx hno b3_15 a3_15 n3_15 c3_15 d3_15 m3_15 o3_15
   have hq:=hx.set (.bool b3_15) (.slice a3_15 n3_15 c3_15) (.slice d3_15 m3_15 o3_15)
   have hg:(w.heap.size+1+1)≤(w.heap.size+1+1):=Nat.le_refl _
   go_simp
   exact hKO _ _ hw ⟨(Ext.wr hS.1 hw (by omega)),(hS.2.1.wr hw),(hS.2.2.1.wr hw),(hS.2.2.2.1.wr hw (by omega)),(hS.2.2.2.2.1.wr hw (by omega)),(hS.2.2.2.2.2.1.wr hw),(hS.2.2.2.2.2.2.1.wr hw),(hS.2.2.2.2.2.2.2.1.wr hw (by omega)),(hS.2.2.2.2.2.2.2.2.1.wr hw),(hS.2.2.2.2.2.2.2.2.2.1.wr hw),(Nat.le_trans hS.2.2.2.2.2.2.2.2.2.2 hw.apart.size)⟩ hq
 intro vs W4 hS hp
 clear szw4 E0 h1 h2 p2 p3 fp4 h3_12 p3_15 h3_4 h3_9
 obtain⟨E0,h1,h2,p2,p3,fp4,h3_12,p3_15,h3_4,h3_9,sz4⟩:=hS
 obtain⟨h4_0,h4_1,-⟩:=hp
 have p4_1:Bx3 W4 (w.heap.size+1+1) 45 (.bool b3_15) (.slice a3_15 n3_15 c3_15) (.slice d3_15 m3_15 o3_15):=h4_1
 simp only[isOf h4_0]
 obtain⟨k2a,k2b,k2c⟩:=p2.c3
 obtain⟨k3a,k3b,k3c⟩:=p3.c3
 obtain⟨k3_15a,k3_15b,k3_15c⟩:=p3_15.c3
 obtain⟨k4_1a,k4_1b,k4_1c⟩:=p4_1.c3
 go_wp2
 exact bodyPost_ret (v:=.agg #[.bool b3_15,.slice a3_15 n3_15 c3_15,.slice d3_15 m3_15 o3_15]) (by simp[results,Tryz.results31,go_sem,k4_1a,k4_1b,k4_1c]) rfl ⟨_,rfl,h3_12,E0⟩
set_option maxRecDepth 100000 in
set_option maxHeartbeats 400000 in
theorem Tryz.refRSub {v1 v2:Value} {x y:Rat} {L:Nat} {w:World} (h1:Rw w v1 x) (h2:Rw w v2 y) (s1:SmR L x) (s2:SmR L y) (hL:L≤140):
  Calls Tryz.prog 27 #[v1,v2] w fun e w'=>∃ v',e=.returned v'∧Rw w' v' (x - y)∧Ext w w':=by
 obtain⟨b1,a1,n1,c1,d1,m1,o1,rfl,q1⟩:∃ b a n c d m o,v1=.agg #[.bool b,.slice a n c,.slice d m o]∧True:=let ⟨b,a,n,c,d,m,o,e,_⟩:=h1;⟨b,a,n,c,d,m,o,e,trivial⟩
 clear q1
 obtain⟨b2,a2,n2,c2,d2,m2,o2,rfl,q2⟩:∃ b a n c d m o,v2=.agg #[.bool b,.slice a n c,.slice d m o]∧True:=let ⟨b,a,n,c,d,m,o,e,_⟩:=h2;⟨b,a,n,c,d,m,o,e,trivial⟩
 clear q2;rw[Rat.sub_eq_add_neg]
 obtain⟨W0,hW0,E0,p2,p3,p4⟩:=boxed3 w 45 #[.bool b1,.slice a1 n1 c1,.slice d1 m1 o1] 45 #[.bool b2,.slice a2 n2 c2,.slice d2 m2 o2] 45 #[.bool false,.slice none 0 0,.slice none 0 0]
 replace p2:=p2.b3
 replace p3:=p3.b3
 replace p4:=p4.b3
 replace h1:Rw W0 (.agg #[.bool b1,.slice a1 n1 c1,.slice d1 m1 o1]) x:=h1.ext E0
 replace h2:Rw W0 (.agg #[.bool b2,.slice a2 n2 c2,.slice d2 m2 o2]) y:=h2.ext E0
 go_enter Tryz.func27,Tryz.ntmps27
 obtain⟨k2a,k2b,k2c⟩:=p2.c3
 obtain⟨k3a,k3b,k3c⟩:=p3.c3
 obtain⟨k4a,k4b,k4c⟩:=p4.c3
 go_upto_region 1 with (fail)
 rw[← hW0]
 clear hW0;clear k2a k2b k2c k3a k3b k3c k4a k4b k4c;have fp4:=p4.form;have ltp2:=p2.lt;have ltp3:=p3.lt;have ltfp4:=fp4.lt;have szw5:=Ext.size E0
 refine region_gs [isV (.agg #[.bool b1,.slice a1 n1 c1,.slice d1 m1 o1]),isV (.agg #[.bool b2,.slice a2 n2 c2,.slice d2 m2 o2]),
   .one fun v W=>Rw W v (-y),
   .one fun v W=>Rw W v (x + -y),
   .two 3 (fun r _ W=>At3 (w.heap.size+1+1) 45 r W)]
  (fun W=>Ext w W∧Rw W (.agg #[.bool b1,.slice a1 n1 c1,.slice d1 m1 o1]) x∧Rw W (.agg #[.bool b2,.slice a2 n2 c2,.slice d2 m2 o2]) y∧Bx3 W w.heap.size 45 (.bool b1) (.slice a1 n1 c1) (.slice d1 m1 o1)∧Bx3 W (w.heap.size+1) 45 (.bool b2) (.slice a2 n2 c2) (.slice d2 m2 o2)∧Form W (w.heap.size+1+1) 45 3∧W0.heap.size≤W.heap.size) ⟨Good.is _,Good.is _,Good.rat _,Good.rat _,cert_at3,trivial⟩
  ⟨E0,h1,h2,p2,p3,fp4,Nat.le_refl _⟩ (A:=?A5) ?hA5 ?howe5 ?hfin5
 case hA5=>
  intro vs
  simp only[putAll,Act.put,sA,sZ,sS,Nat.zero_add,Nat.reduceAdd]
  exact rfl
 case howe5=>
  clear E0 h1 h2 p2 p3 fp4
  intro hf
  refine⟨oE 0 [] hf rfl ?_,oE 1 [] hf rfl ?_,oE 2 [1] hf rfl ?_,oE 3 [0,2] hf rfl ?_,oW 4 [3] hf rfl ?_,trivial⟩
  all_goals intro vs W hS hp hx KO hKO
  all_goals simp only[Act.put,sA,sZ,sS]at hKO
  ·have fc0:=hS.2.2.2.1.cell0;have fc1:=hS.2.2.2.1.cell1;have fc2:=hS.2.2.2.1.cell2;go_simp;exact hKO _ W (.refl W) rfl
  ·have fc0:=hS.2.2.2.2.1.cell0;have fc1:=hS.2.2.2.2.1.cell1;have fc2:=hS.2.2.2.2.1.cell2;go_simp;exact hKO _ W (.refl W) rfl
  ·have e1:=isOf hp.1;simp only[e1]at hKO;go_simp
   refine(Tryz.refRNeg (hS.2.2.1)).mono ?_
   rintro e W1 ⟨v,rfl,hv,hE⟩
   exact hKO _ W1 hE hv
  ·have e0:=isOf hp.1;have q2:=hp.2.1;simp only[e0]at hKO;go_simp
   refine(Tryz.refRAdd (hS.2.1) q2 s1 s2.neg hL).mono ?_
   rintro e W1 ⟨v,rfl,hv,hE⟩
   exact hKO _ W1 hE hv
  ·have q3:=hp.1
   have hf:=hS.2.2.2.2.2.1
   obtain⟨x0,y0,z0,hx,hno⟩:=hf.bx3
   have qr:=q3
   obtain⟨b3,a3,n3,c3,d3,m3,o3,er,-,-,-⟩:=qr
   replace er:vs 3=_:=er
   have r0:=hx.froz0
   have t0:=hx.cell0
   have r1:=hx.froz1
   have t1:=hx.cell1
   have r2:=hx.froz2
   have t2:=hx.cell2
   have hw:=Wr.set3 hx hno b3 a3 n3 c3 d3 m3 o3
   have hq:=hx.set (.bool b3) (.slice a3 n3 c3) (.slice d3 m3 o3)
   have hg:(w.heap.size+1+1)≤(w.heap.size+1+1):=Nat.le_refl _
   simp only[er]at hKO;go_simp
   exact hKO _ _ hw ⟨(Ext.wr hS.1 hw (by omega)),(hS.2.1.wr hw),(hS.2.2.1.wr hw),(hS.2.2.2.1.wr hw (by omega)),(hS.2.2.2.2.1.wr hw (by omega)),(hS.2.2.2.2.2.1.wr hw),(Nat.le_trans hS.2.2.2.2.2.2 hw.apart.size)⟩ ⟨b3,a3,n3,c3,d3,m3,o3,er,hq⟩
 intro vs W5 hS hp
 clear szw5 E0 h1 h2 p2 p3 fp4
 obtain⟨E0,h1,h2,p2,p3,fp4,sz5⟩:=hS
 obtain⟨h5_0,h5_1,h5_2,h5_3,h5_4,-⟩:=hp
 obtain⟨b5_4,a5_4,n5_4,c5_4,d5_4,m5_4,o5_4,er5_4,p5_4⟩:=h5_4
 replace er5_4:vs 3=_:=er5_4;replace h5_3:=(show Rw W5 (vs 3) (x + -y) from h5_3)
 rw[er5_4]at h5_3
 simp only[er5_4,isOf h5_0,isOf h5_1]
 replace h5_2:Rw W5 (vs 2) (-y):=h5_2
 generalize vs 2=u5_2 at h5_2 ⊢
 obtain⟨k2a,k2b,k2c⟩:=p2.c3
 obtain⟨k3a,k3b,k3c⟩:=p3.c3
 obtain⟨k5_4a,k5_4b,k5_4c⟩:=p5_4.c3
 go_wp2
 exact bodyPost_ret (v:=.agg #[.bool b5_4,.slice a5_4 n5_4 c5_4,.slice d5_4 m5_4 o5_4]) (by simp[results,Tryz.results27,go_sem,k5_4a,k5_4b,k5_4c]) rfl ⟨_,rfl,h5_3,E0⟩
set_option maxRecDepth 100000 in
set_option maxHeartbeats 400000 in
theorem Tryz.refROf (n:Int) (w:World) (h1:-9223372036854775808≤n) (h2:n < 9223372036854775808):
  Calls Tryz.prog 32 #[.int .i64 n] w fun e w'=>∃ v',e=.returned v'∧Rw w' v' (n:Rat)∧Ext w w':=by
 have H1:=Lib.hid h1
 have H2:=Lib.hid h2
 have B1:Hid (1 < B64):=Lib.hid (by rw[B64_eq];omega)
 clear h1 h2
 obtain⟨W0,hW0,E0,p2⟩:=boxed1 w 45 #[.bool false,.slice none 0 0,.slice none 0 0]
 replace p2:=p2.b3
 go_enter Tryz.func32,Tryz.ntmps32
 obtain⟨k2a,k2b,k2c⟩:=p2.c3
 go_upto_region 1 with (fail)
 rw[← hW0]
 clear hW0;clear k2a k2b k2c;have fp2:=p2.form;have ltfp2:=fp2.lt;have szw7:=Ext.size E0
 refine region_gs [isV (.int .i64 n),
   .one fun v W=>Zw W v n,
   .one fun v W=>Nw W v 1,
   .one fun v W=>Rw W v ((n:Rat)),
   .two 3 (fun r _ W=>At3 w.heap.size 45 r W)]
  (fun W=>Ext w W∧Form W w.heap.size 45 3∧W0.heap.size≤W.heap.size) ⟨Good.is _,Good.zed _,Good.num _,Good.rat _,cert_at3,trivial⟩
  ⟨E0,fp2,Nat.le_refl _⟩ (A:=?A7) ?hA7 ?howe7 ?hfin7
 case hA7=>
  intro vs
  simp only[putAll,Act.put,sA,sZ,sS,Nat.zero_add,Nat.reduceAdd]
  exact rfl
 case howe7=>
  clear E0 fp2
  intro hf
  refine⟨oP0 0 [] hf rfl,oE 1 [0] hf rfl ?_,oE 2 [] hf rfl ?_,oE 3 [1,2] hf rfl ?_,oW 4 [3] hf rfl ?_,trivial⟩
  all_goals intro vs W hS hp hx KO hKO
  all_goals simp only[Act.put,sA,sZ,sS]at hKO
  ·have e0:=isOf hp.1;simp only[e0]at hKO;go_simp
   refine(Tryz.refZOf n _ H1.out H2.out).mono ?_
   rintro e W1 ⟨v,rfl,hv,hE⟩
   exact hKO _ W1 hE hv
  ·go_simp
   refine(Tryz.refOf 1 _ B1.out).mono ?_
   rintro e W1 ⟨v,rfl,hv,hE,-⟩
   exact hKO _ W1 hE hv
  ·have q1:=hp.1;have q2:=hp.2.1
   obtain⟨b1,a1,n1,c1,ev1,hb1,hn1⟩:=q1
   replace ev1:vs 1=_:=ev1
   have ev2:=q2
   obtain⟨a2,n2,c2,ev2⟩:=Nw.slice (show Nw W (vs 2) 1 from q2)
   replace q2:Nw W (vs 2) 1:=q2
   rw[ev2]at q2
   replace ev2:vs 2=_:=ev2;simp only[ev1,ev2]at hKO;go_simp;exact hKO _ W (Ext.refl W) ⟨b1,a1,n1,c1,a2,n2,c2,rfl,hb1,hn1,q2⟩
  ·have q3:=hp.1
   have hf:=hS.2.1
   obtain⟨x0,y0,z0,hx,hno⟩:=hf.bx3
   have qr:=q3
   obtain⟨b3,a3,n3,c3,d3,m3,o3,er,-,-,-⟩:=qr
   replace er:vs 3=_:=er
   have r0:=hx.froz0
   have t0:=hx.cell0
   have r1:=hx.froz1
   have t1:=hx.cell1
   have r2:=hx.froz2
   have t2:=hx.cell2
   have hw:=Wr.set3 hx hno b3 a3 n3 c3 d3 m3 o3
   have hq:=hx.set (.bool b3) (.slice a3 n3 c3) (.slice d3 m3 o3)
   have hg:w.heap.size≤w.heap.size:=Nat.le_refl _
   simp only[er]at hKO;go_simp
   exact hKO _ _ hw ⟨(Ext.wr hS.1 hw (by omega)),(hS.2.1.wr hw),(Nat.le_trans hS.2.2 hw.apart.size)⟩ ⟨b3,a3,n3,c3,d3,m3,o3,er,hq⟩
 intro vs W7 hS hp
 clear szw7 E0 fp2
 obtain⟨E0,fp2,sz7⟩:=hS
 obtain⟨h7_0,h7_1,h7_2,h7_3,h7_4,-⟩:=hp
 obtain⟨b7_4,a7_4,n7_4,c7_4,d7_4,m7_4,o7_4,er7_4,p7_4⟩:=h7_4
 replace er7_4:vs 3=_:=er7_4;replace h7_3:=(show Rw W7 (vs 3) ((n:Rat)) from h7_3)
 rw[er7_4]at h7_3
 simp only[er7_4,isOf h7_0]
 replace h7_1:Zw W7 (vs 1) n:=h7_1
 generalize vs 1=u7_1 at h7_1 ⊢
 replace h7_2:Nw W7 (vs 2) 1:=h7_2
 generalize vs 2=u7_2 at h7_2 ⊢
 obtain⟨k7_4a,k7_4b,k7_4c⟩:=p7_4.c3
 go_wp2
 exact bodyPost_ret (v:=.agg #[.bool b7_4,.slice a7_4 n7_4 c7_4,.slice d7_4 m7_4 o7_4]) (by simp[results,Tryz.results32,go_sem,k7_4a,k7_4b,k7_4c]) rfl ⟨_,rfl,h7_3,E0⟩
end Go.Rt
namespace Go.Rt
open Go.RowKit Go.Proofs
theorem shE_in {K:Nat} (h:K≤20000):shE (K:Int)=0:=if_neg (by omega)
theorem shlV_in {N K:Nat} (h:K≤20000):shlV N (K:Int)=N*2^K:=by unfold shlV;rw[if_neg (by omega),Int.toNat_natCast]
theorem dvE_in {M:Nat} (h:M≠0):dvE M=0:=if_neg h
theorem dvR_in {N M:Nat} (h:M≠0):dvR N M=N % M:=if_neg h
theorem Tryz.refShlK {v:Value} {N L:Nat} {w:World} (h:Nw w v N) (s:Sm L N) (hL:L≤1000000) (K:Nat) (hK:K≤20000):
    Calls Tryz.prog 20 #[v,.int .i64 (K:Int)] w fun e w'=>∃ v',e=.returned (.tuple #[v',.int .i64 0])∧Nw w' v' (N*2^K)∧Ext w w':=
  (Tryz.refShl h s hL K).mono fun _ _ ⟨v',h1,h2,h3,_⟩=>⟨v',by rw[h1,shE_in hK],by rw[← shlV_in hK];exact h2,h3⟩
theorem Tryz.refDivModK {v1 v2:Value} {N M L:Nat} {w:World} (h1:Nw w v1 N) (h2:Nw w v2 M) (s1:Sm L N) (s2:Sm L M) (hL:L≤300) (hM:M≠0):
    Calls Tryz.prog 23 #[v1,v2] w fun e w'=>∃ vq vr,e=.returned (.tuple #[vq,vr,.int .i64 0])∧Nw w' vq (N / M)∧Nw w' vr (N % M)∧Ext w w':=
  (Tryz.refDivMod h1 h2 s1 s2 hL).mono fun _ _ ⟨vq,vr,h1,h2,h3,h4,_⟩=>⟨vq,vr,by rw[h1,dvE_in hM],h2,by rw[← dvR_in hM];exact h3,h4⟩
theorem Tryz.divShlK {v:Value} {N L:Nat} {w:World} (h:Nw w v N) (s:Sm L N) (hL:L≤1000000) (K:Nat) (hK:K≤20000):
    Calls Tryz.prog 34 #[v,.int .i64 (K:Int)] w fun e w'=>∃ v',e=.returned (.tuple #[v',.int .i64 0])∧Nw w' v' (N*2^K)∧Ext w w':=
  (Tryz.divShl h s hL K).mono fun _ _ ⟨v',h1,h2,h3,_⟩=>⟨v',by rw[h1,shE_in hK],by rw[← shlV_in hK];exact h2,h3⟩
theorem Tryz.divDivModK {v1 v2:Value} {N M L:Nat} {w:World} (h1:Nw w v1 N) (h2:Nw w v2 M) (s1:Sm L N) (hL:L≤300000) (hM:M≠0):
    Calls Tryz.prog 37 #[v1,v2] w fun e w'=>∃ vq vr,e=.returned (.tuple #[vq,vr,.int .i64 0])∧Nw w' vq (N / M)∧Nw w' vr (N % M)∧Ext w w':=
  (Tryz.divDivMod h1 h2 s1 hL).mono fun _ _ ⟨vq,vr,h1,h2,h3,h4,_⟩=>⟨vq,vr,by rw[h1,dvE_in hM],h2,by rw[← dvR_in hM];exact h3,h4⟩
theorem Zw.ofN {W:World} {a:Option Addr} {n c N:Nat} (h:Nw W (.slice a n c) N):Zw W (.agg #[.bool false,.slice a n c]) (N:Int):=⟨false,a,n,c,rfl,Lib.hid (by rw[decide_eq_false (by omega)]),by rw[Int.natAbs_natCast];exact h⟩
end Go.Rt
namespace Go.Rt
open Go.RowKit Go.Proofs
set_option maxRecDepth 100000 in
set_option maxHeartbeats 400000 in
theorem Tryz.refBack {v1:Value} {z:Int} {L:Nat} {w:World} (h1:Zw w v1 z) (s1:Sm L z.natAbs) (hL:L≤200) (K:Nat) (hK:K≤2000):
  Calls Tryz.prog 96 #[v1,.int .i64 (K:Int)] w fun e w'=>∃ v',e=.returned (.tuple #[v',.int .i64 0])∧Rw w' v' ((z:Rat) / P2 K)∧Ext w w':=by
 obtain⟨b1,a1,n1,c1,rfl,q1⟩:∃ b a n c,v1=.agg #[.bool b,.slice a n c]∧True:=let ⟨b,a,n,c,e,_⟩:=h1;⟨b,a,n,c,e,trivial⟩
 clear q1
 have B1:Hid (1 < B64):=Lib.hid (by rw[B64_eq];omega)
 have hk0:¬ ((K:Int) < 0):=by omega
 have hk1:¬ ((2000:Int) < (K:Int)):=by omega
 obtain⟨D,hD⟩:∃ D,D=2^K:=⟨_,rfl⟩
 have SX:Hid (Sm (L+32) z.natAbs):=Lib.hid (s1.mono (by omega))
 have SD:Hid (Sm (L+32) D):=Lib.hid (by rw[hD];exact(Sm.pow2 K).mono (by omega))
 have HD0:Hid (D≠0):=Lib.hid (by rw[hD];exact Nat.pos_iff_ne_zero.1 (Nat.pow_pos (by omega)))
 have HR:Hid (mkRat z D=(z:Rat) / P2 K):=Lib.hid (by rw[hD];exact back_eq z K)
 have HD:Hid (1*2^K=D):=Lib.hid (by rw[hD,Nat.one_mul])
 have S1:Hid (Sm 1 1):=Lib.hid (Sm.one B1.out)
 rw[← HR.out]
 clear hD
 obtain⟨W0,hW0,E0,p2,p4⟩:=boxed2 w 43 #[.bool b1,.slice a1 n1 c1] 45 #[.bool false,.slice none 0 0,.slice none 0 0]
 replace p2:=p2.b2
 replace p4:=p4.b3
 replace h1:Zw W0 (.agg #[.bool b1,.slice a1 n1 c1]) z:=h1.ext E0
 go_enter Tryz.func96,Tryz.ntmps96
 obtain⟨k2a,k2b⟩:=p2.c2
 obtain⟨k4a,k4b,k4c⟩:=p4.c3
 go_upto_region 3 with (fail)
 rw[← hW0]
 clear hW0;clear k2a k2b k4a k4b k4c;have ltp2:=p2.lt;have ltp4:=p4.lt;have szw1:=Ext.size E0
 refine region_gk [.one fun v W=>Nw W v 1,
   isV (.int .i64 (K:Int)),
   .one fun v W=>∃ v',v=.tuple #[v',.int .i64 0]∧(fun v W=>Nw W v D) v' W,
   .one fun v W=>∃ v',v=.tuple #[v',.int .i64 0]∧(fun v W=>Nw W v D) v' W,
   .one fun v W=>Nw W v D,
   isV (.int .i64 0),
   .one fun v W=>Nw W v D,
   .one fun v _=>v=.int .i64 0] ⟨Good.num _,Good.is _,(Good.num _).tup _,(Good.num _).tup _,Good.num _,Good.is _,Good.num _,Good.is _,trivial⟩ (E0.s.k (h1.s.k (p2.s.k (p4.s)))) (A:=?A1) ?hA1 ?howe1 ?hfin1
 case hA1=>
  intro vs
  simp only[putAll,Act.put,sA,sZ,sS,Nat.zero_add,Nat.reduceAdd]
  exact rfl
 case howe1=>
  clear E0 h1 p2 p4
  intro hf
  refine⟨oE 0 [] hf rfl ?_,oP0 1 [] hf rfl,oE 2 [0,1] hf rfl ?_,oE 3 [2] hf rfl ?_,oE 4 [3] hf rfl ?_,oE 5 [3] hf rfl ?_,oE 6 [4] hf rfl ?_,oP1 7 [5] hf rfl,trivial⟩
  all_goals intro vs W hS hp hx KO hKO
  all_goals simp only[Act.put,sA,sZ,sS]at hKO
  ·go_simp
   refine(Tryz.refOf 1 _ B1.out).mono ?_
   rintro e W1 ⟨v,rfl,hv,hE,-⟩
   exact hKO _ W1 hE hv
  ·have q0:=hp.1;have e1:=isOf hp.2.1;simp only[e1]at hKO;go_simp
   refine(Tryz.refShlK q0 S1.out (by omega) K (by omega)).mono ?_
   rintro e W1 ⟨v,rfl,hv,hE⟩
   rw[HD.out]at hv
   exact hKO _ W1 hE ⟨_,rfl,hv⟩
  ·have q2:=hp.1
   obtain⟨u,ev,hu⟩:=q2
   replace ev:vs 2=_:=ev;simp only[ev]at hKO;go_simp;exact hKO _ W (Ext.refl W) ⟨u,rfl,hu⟩
  ·have q3:=hp.1
   obtain⟨u,ev,hu⟩:=q3
   replace ev:vs 3=_:=ev;simp only[ev]at hKO;go_simp;exact hKO _ W (Ext.refl W) hu
  ·have q3:=hp.1
   obtain⟨u,ev,hu⟩:=q3
   replace ev:vs 3=_:=ev;simp only[ev]at hKO;go_simp;exact hKO _ W (.refl W) rfl
  ·have q4:=hp.1;go_simp;exact hKO _ W (Ext.refl W) q4
 intro vs W1 hS hp
 clear szw1 E0 h1 p2 p4
 obtain⟨⟨E0,h1,p2,p4⟩,sz1⟩:=hS
 obtain⟨h1_0,h1_1,h1_2,h1_3,h1_4,h1_5,h1_6,h1_7,-⟩:=hp
 simp only[isOf h1_1,isOf h1_5,isOf h1_7]
 replace h1_0:Nw W1 (vs 0) 1:=h1_0
 generalize vs 0=u1_0 at h1_0 ⊢
 replace h1_4:Nw W1 (vs 4) D:=h1_4
 generalize vs 4=u1_4 at h1_4 ⊢
 replace h1_6:Nw W1 (vs 6) D:=h1_6
 generalize vs 6=u1_6 at h1_6 ⊢
 obtain⟨k2a,k2b⟩:=p2.c2
 obtain⟨k4a,k4b,k4c⟩:=p4.c3
 go_upto_region 4 with (fail)
 clear k2a k2b k4a k4b k4c;have fp4:=p4.form;have szw2:=Ext.size E0
 refine region_gs [isV (.agg #[.bool b1,.slice a1 n1 c1]),isV (u1_6),
   .one fun v W=>∃ v',v=.tuple #[v',.int .i64 0]∧(fun v W=>Rw W v (mkRat z D)) v' W,
   .one fun v W=>Rw W v (mkRat z D),
   isV (.int .i64 0),
   .two 3 (fun r _ W=>At3 (w.heap.size+1) 45 r W),
   isV (.int .i64 0)]
  (fun W=>Ext w W∧Zw W (.agg #[.bool b1,.slice a1 n1 c1]) z∧Bx2 W w.heap.size 43 (.bool b1) (.slice a1 n1 c1)∧Form W (w.heap.size+1) 45 3∧Nw W u1_0 1∧Nw W u1_4 D∧Nw W u1_6 D∧W1.heap.size≤W.heap.size) ⟨Good.is _,Good.is _,(Good.rat _).tup _,Good.rat _,Good.is _,cert_at3,Good.is _,trivial⟩
  ⟨E0,h1,p2,fp4,h1_0,h1_4,h1_6,Nat.le_refl _⟩ (A:=?A2) ?hA2 ?howe2 ?hfin2
 case hA2=>
  intro vs
  simp only[putAll,Act.put,sA,sZ,sS,Nat.zero_add,Nat.reduceAdd]
  exact rfl
 case howe2=>
  clear E0 h1 p2 fp4 h1_0 h1_4 h1_6
  intro hf
  refine⟨oE 0 [] hf rfl ?_,oP0 1 [] hf rfl,oE 2 [0,1] hf rfl ?_,oE 3 [2] hf rfl ?_,oE 4 [2] hf rfl ?_,oW 5 [3] hf rfl ?_,oP1 6 [4] hf rfl,trivial⟩
  all_goals intro vs W hS hp hx KO hKO
  all_goals simp only[Act.put,sA,sZ,sS]at hKO
  ·have fc0:=hS.2.2.1.cell0;have fc1:=hS.2.2.1.cell1;go_simp;exact hKO _ W (.refl W) rfl
  ·have e0:=isOf hp.1;have e1:=isOf hp.2.1;simp only[e0,e1]at hKO;go_simp
   refine(Tryz.refRMake (hS.2.1) (hS.2.2.2.2.2.2.1) SX.out SD.out (by omega) HD0.out).mono ?_
   rintro e W1 ⟨v,rfl,hv,hE⟩
   exact hKO _ W1 hE ⟨_,rfl,hv⟩
  ·have q2:=hp.1
   obtain⟨u,ev,hu⟩:=q2
   replace ev:vs 2=_:=ev;simp only[ev]at hKO;go_simp;exact hKO _ W (Ext.refl W) hu
  ·have q2:=hp.1
   obtain⟨u,ev,hu⟩:=q2
   replace ev:vs 2=_:=ev;simp only[ev]at hKO;go_simp;exact hKO _ W (.refl W) rfl
  ·have q3:=hp.1
   have hf:=hS.2.2.2.1
   obtain⟨x0,y0,z0,hx,hno⟩:=hf.bx3
   have qr:=q3
   obtain⟨b3,a3,n3,c3,d3,m3,o3,er,-,-,-⟩:=qr
   replace er:vs 3=_:=er
   have r0:=hx.froz0
   have t0:=hx.cell0
   have r1:=hx.froz1
   have t1:=hx.cell1
   have r2:=hx.froz2
   have t2:=hx.cell2
   have hw:=Wr.set3 hx hno b3 a3 n3 c3 d3 m3 o3
   have hq:=hx.set (.bool b3) (.slice a3 n3 c3) (.slice d3 m3 o3)
   have hg:(w.heap.size+1)≤(w.heap.size+1):=Nat.le_refl _
   simp only[er]at hKO;go_simp
   exact hKO _ _ hw ⟨(Ext.wr hS.1 hw (by omega)),(hS.2.1.wr hw),(hS.2.2.1.wr hw (by omega)),(hS.2.2.2.1.wr hw),(hS.2.2.2.2.1.wr hw),(hS.2.2.2.2.2.1.wr hw),(hS.2.2.2.2.2.2.1.wr hw),(Nat.le_trans hS.2.2.2.2.2.2.2 hw.apart.size)⟩ ⟨b3,a3,n3,c3,d3,m3,o3,er,hq⟩
 intro vs W2 hS hp
 clear szw2 E0 h1 p2 fp4 h1_0 h1_4 h1_6
 obtain⟨E0,h1,p2,fp4,h1_0,h1_4,h1_6,sz2⟩:=hS
 obtain⟨h2_0,h2_1,h2_2,h2_3,h2_4,h2_5,h2_6,-⟩:=hp
 obtain⟨b2_5,a2_5,n2_5,c2_5,d2_5,m2_5,o2_5,er2_5,p2_5⟩:=h2_5
 replace er2_5:vs 3=_:=er2_5;replace h2_3:=(show Rw W2 (vs 3) (mkRat z D) from h2_3)
 rw[er2_5]at h2_3
 simp only[er2_5,isOf h2_0,isOf h2_1,isOf h2_4,isOf h2_6]
 obtain⟨k2a,k2b⟩:=p2.c2
 obtain⟨k2_5a,k2_5b,k2_5c⟩:=p2_5.c3
 go_wp2
 exact bodyPost_ret (v:=.tuple #[.agg #[.bool b2_5,.slice a2_5 n2_5 c2_5,.slice d2_5 m2_5 o2_5],.int .i64 0]) (by simp[results,Tryz.results96,go_sem,k2_5a,k2_5b,k2_5c]) rfl ⟨_,rfl,h2_3,E0⟩
end Go.Rt
