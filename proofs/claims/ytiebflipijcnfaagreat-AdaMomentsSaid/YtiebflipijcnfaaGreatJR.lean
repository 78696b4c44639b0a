/-
  The laws of chapter 19 (Adafactor): rationals that Moments asks of: a mantissa's number, the mean of squares, a new moment, and how far one is.
  The laws of chapter 19 (Adafactor): Moments: its walk.
-/
import Derived.Test.YtiebflipijcnfaaGreatJQ
import Derived.Test.YtiebflipijcnfaaGreatJL
import Derived.Deep.CutRange
namespace Go.Rt
open Go Go.RowKit Go.Proofs
theorem cmp_fewer {x y:Rat} (h:x≤y):(if x < y then (-1:Int) else if y < x then 1 else 0)≤0:=by
 split
 ·omega
 ·split
  ·rename_i h1 h2
   exact absurd (Rat.le_antisymm h (Rat.le_of_lt h2)) (fun e=>by rw[e]at h2;exact absurd h2 (Rat.lt_irrefl))
  ·omega
theorem SmR.num {n:Int} (h1:-9223372036854775808≤n) (h2:n < 9223372036854775808) {K:Nat} (hK:K≤40):SmR 4 (numR K n):=(SmR.backP (Sm.small (by omega)) (by omega)).mono (by omega)
theorem SmR.ofInt {n:Int} (h1:-9223372036854775808≤n) (h2:n < 9223372036854775808):SmR 2 (n:Rat):=(SmR.int (by omega)).mono (by omega)
theorem SmR.frac {m:Nat} (h0:0 < m) (h:m≤40):SmR 1 (mkRat 1 m):=SmR.mk (Sm.small (by decide)) (Sm.small (by omega)) (by omega)
theorem sqM_sm {K:Nat} {ep:Int} {lg:List Int} {s st m:Nat} (hep:I64 ep) (h64:∀ i,I64 (atL lg i)) (hK:K≤40) (h0:0 < m) (hm:m≤40):SmR 10 (sqM K ep lg s st m):=(sqS_sm hep h64 hK hm).mul ((SmR.frac h0 hm).mono (by omega))
theorem mixR_sm {K:Nat} {sh old:Int} {Q:Rat} (h1:I64 sh) (h2:I64 old) (hK:K≤40) (hQ:SmR 10 Q):SmR 41 (mixR K sh old Q):=by
 have S1:=SmR.num h1.1 h1.2 hK
 have S2:=SmR.num h2.1 h2.2 hK
 have SO:SmR 4 ((1:Int):Rat):=(SmR.ofInt (n:=1) (by omega) (by omega)).mono (by omega)
 have SP:SmR 20 ((((1:Int):Rat) - numR K sh)*numR K old):=(SmR.mul (SO.sub S1) (S2.mono (by omega))).mono (by omega)
 have SQ:SmR 20 (numR K sh*Q):=SmR.mul (S1.mono (by omega)) hQ
 exact SP.add SQ
set_option maxRecDepth 100000 in
set_option maxHeartbeats 8000000 in
theorem Tryz.num19 (n:Int) (K:Nat) (hK:K≤40) (w:World) (h1:-9223372036854775808≤n) (h2:n < 9223372036854775808):
  Calls Tryz.prog 28 #[.int .i64 n,.int .i64 (K:Int)] w fun e w'=>∃ v',e=.returned v'∧Rw w' v' (numR K n)∧Ext w w':=by
 have HK:=Lib.hid hK
 have HB:=Lib.hid (And.intro h1 h2)
 clear hK h1 h2
 obtain⟨W0,hW0,E0,p4⟩:=boxed1 w 45 #[.bool false,.slice none 0 0,.slice none 0 0]
 replace p4:=p4.b3
 go_enter Tryz.func28,Tryz.ntmps28
 obtain⟨k4a,k4b,k4c⟩:=p4.c3
 go_upto_region 1 with (fail)
 rw[← hW0]
 clear hW0;clear k4a k4b k4c;have ltp4:=p4.lt;have szw2:=Ext.size E0
 refine region_gs [isV (.int .i64 n),isV (.int .i64 (K:Int)),
   .one fun v W=>∃ v',v=.tuple #[v',.int .i64 0]∧(fun v W=>Rw W v (numR K n)) v' W,
   .one fun v W=>∃ v',v=.tuple #[v',.int .i64 0]∧(fun v W=>Rw W v (numR K n)) v' W,
   .one fun v W=>Rw W v (numR K n),
   isV (.int .i64 0),
   .one fun v W=>∃ g,v=.pointer (some ⟨g,0,none⟩)∧W0.heap.size≤g∧Form W g 45 3,
   .three 6 4 (fun p r _ W=>Put3 W0.heap.size 45 p r W),
   isV (.int .i64 0)]
  (fun W=>Ext w W∧Bx3 W w.heap.size 45 (.bool false) (.slice none 0 0) (.slice none 0 0)∧W0.heap.size≤W.heap.size) ⟨Good.is _,Good.is _,(Good.rat _).tup _,(Good.rat _).tup _,Good.rat _,Good.is _,Good.box _ _ _,cert_put3,Good.is _,trivial⟩
  ⟨E0,p4,Nat.le_refl _⟩ (A:=?A2) ?hA2 ?howe2 ?hfin2
 case hA2=>
  intro vs
  simp only[putAll,Act.put,sA,sZ,sS,Nat.zero_add,Nat.reduceAdd]
  exact rfl
 case howe2=>
  clear E0 p4
  intro hf
  refine⟨oP0 0 [] hf rfl,oP0 1 [] hf rfl,oE 2 [0,1] hf rfl ?_,oE 3 [2] hf rfl ?_,oE 4 [3] hf rfl ?_,oE 5 [3] hf rfl ?_,oE 6 [] hf rfl ?_,oW 7 [6,4] hf rfl ?_,oP1 8 [5] hf rfl,trivial⟩
  all_goals intro vs W hS hp hx KO hKO
  all_goals simp only[Act.put,sA,sZ,sS]at hKO
  ·have e0:=isOf hp.1;have e1:=isOf hp.2.1;simp only[e0,e1]at hKO;go_simp
   refine(Tryz.ref08Rat n K HK.out _ HB.out.1 HB.out.2).mono ?_
   rintro e W1 ⟨v,rfl,hv,hE⟩
   exact hKO _ W1 hE ⟨_,rfl,hv⟩
  ·have q2:=hp.1
   obtain⟨u,ev,hu⟩:=q2
   replace ev:vs 2=_:=ev;simp only[ev]at hKO;go_simp;exact hKO _ W (Ext.refl W) ⟨u,rfl,hu⟩
  ·have q3:=hp.1
   obtain⟨u,ev,hu⟩:=q3
   replace ev:vs 3=_:=ev;simp only[ev]at hKO;go_simp;exact hKO _ W (Ext.refl W) hu
  ·have q3:=hp.1
   obtain⟨u,ev,hu⟩:=q3
   replace ev:vs 3=_:=ev;simp only[ev]at hKO;go_simp;exact hKO _ W (.refl W) rfl
  ·have hn:=Bx3.new W 45 (.bool false) (.slice none 0 0) (.slice none 0 0)
   have hE:=Ext.alloc1 W (.cells #[.bool false,.slice none 0 0,.slice none 0 0] 45)
   have hsz:=hS.2.2
   go_simp
   exact hKO _ _ hE ⟨_,rfl,hsz,hn.form⟩
  ·have q6:=hp.1;have q4:=hp.2.1
   obtain⟨g,ev,hg,hf⟩:=q6
   replace ev:vs 6=_:=ev
   obtain⟨x0_0,x0_1,x0_2,hx,hno⟩:=hf.bx3
   have qr:=q4
   obtain⟨b3,a3,n3,c3,d3,m3,o3,er,-,-,-⟩:=qr
   replace er:vs 4=_:=er
   have r0:=hx.froz0
   have t0:=hx.cell0
   have r1:=hx.froz1
   have t1:=hx.cell1
   have r2:=hx.froz2
   have t2:=hx.cell2
   have hw:=Wr.set3 hx hno b3 a3 n3 c3 d3 m3 o3
   have hq:=hx.set (.bool b3) (.slice a3 n3 c3) (.slice d3 m3 o3)
   simp only[ev,er]at hKO;go_simp
   exact hKO _ _ hw ⟨(Ext.wr hS.1 hw (by omega)),(hS.2.1.wr hw (by omega)),(Nat.le_trans hS.2.2 hw.apart.size)⟩ ⟨g,b3,a3,n3,c3,d3,m3,o3,ev,er,hg,hq⟩
 intro vs W2 hS hp
 clear szw2 E0 p4
 obtain⟨E0,p4,sz2⟩:=hS
 obtain⟨h2_0,h2_1,h2_2,h2_3,h2_4,h2_5,h2_6,h2_7,h2_8,-⟩:=hp
 obtain⟨g2_7,b2_7,a2_7,n2_7,c2_7,d2_7,m2_7,o2_7,ev2_7,er2_7,hg2_7,p2_7⟩:=h2_7
 replace ev2_7:vs 6=_:=ev2_7;replace er2_7:vs 4=_:=er2_7;replace h2_4:=(show Rw W2 (vs 4) (numR K n) from h2_4)
 rw[er2_7]at h2_4
 simp only[ev2_7,er2_7,isOf h2_0,isOf h2_1,isOf h2_5,isOf h2_8]
 clear ev2_7 er2_7 h2_0 h2_1 h2_5 h2_8 h2_2 h2_3 h2_6
 obtain⟨k4a,k4b,k4c⟩:=p4.c3
 obtain⟨k2_7a,k2_7b,k2_7c⟩:=p2_7.c3
 go_upto_region 2 with (fail)
 clear k4a k4b k4c k2_7a k2_7b k2_7c;have fp4:=p4.form;have ltp2_7:=p2_7.lt;have szw3:=Ext.size E0
 refine region_gs [isV (.agg #[.bool b2_7,.slice a2_7 n2_7 c2_7,.slice d2_7 m2_7 o2_7]),
   .own fun W=>Bx3 W w.heap.size 45 (.bool b2_7) (.slice a2_7 n2_7 c2_7) (.slice d2_7 m2_7 o2_7)]
  (fun W=>Ext w W∧Form W w.heap.size 45 3∧Rw W (.agg #[.bool b2_7,.slice a2_7 n2_7 c2_7,.slice d2_7 m2_7 o2_7]) (numR K n)∧Bx3 W g2_7 45 (.bool b2_7) (.slice a2_7 n2_7 c2_7) (.slice d2_7 m2_7 o2_7)∧W2.heap.size≤W.heap.size) ⟨Good.is _,cert_bx3,trivial⟩
  ⟨E0,fp4,h2_4,p2_7,Nat.le_refl _⟩ (A:=?A3) ?hA3 ?howe3 ?hfin3
 case hA3=>
  intro vs
  simp only[putAll,Act.put,sA,sZ,sS]
  exact rfl
 case howe3=>
  clear E0 fp4 h2_4 p2_7
  intro hf
  refine⟨oE 0 [] hf rfl ?_,oW 1 [0] hf rfl ?_,trivial⟩
  all_goals intro vs W hS hp hx KO hKO
  all_goals simp only[Act.put,sA,sZ,sS]at hKO
  ·have fc0:=hS.2.2.2.1.cell0;have fc1:=hS.2.2.2.1.cell1;have fc2:=hS.2.2.2.1.cell2;go_simp;exact hKO _ W (.refl W) rfl
  ·have e0:=isOf hp.1;simp only[e0]at hKO
   have hf:=hS.2.1
   obtain⟨x0_0,x0_1,x0_2,hx,hno⟩:=hf.bx3
   have r0:=hx.froz0
   have t0:=hx.cell0
   have r1:=hx.froz1
   have t1:=hx.cell1
   have r2:=hx.froz2
   have t2:=hx.cell2
   have hw:=Wr.set3 hx hno b2_7 a2_7 n2_7 c2_7 d2_7 m2_7 o2_7
   have hq:=hx.set (.bool b2_7) (.slice a2_7 n2_7 c2_7) (.slice d2_7 m2_7 o2_7)
   have hg:w.heap.size≤w.heap.size:=Nat.le_refl _
   go_simp
   exact hKO _ _ hw ⟨(Ext.wr hS.1 hw (by omega)),(hS.2.1.wr hw),(hS.2.2.1.wr hw),(hS.2.2.2.1.wr hw (by omega)),(Nat.le_trans hS.2.2.2.2 hw.apart.size)⟩ hq
 intro vs W3 hS hp
 clear szw3 E0 fp4 h2_4 p2_7
 obtain⟨E0,fp4,h2_4,p2_7,sz3⟩:=hS
 obtain⟨h3_0,h3_1,-⟩:=hp
 have p3_1:Bx3 W3 w.heap.size 45 (.bool b2_7) (.slice a2_7 n2_7 c2_7) (.slice d2_7 m2_7 o2_7):=h3_1
 simp only[isOf h3_0]
 clear h3_0
 obtain⟨k2_7a,k2_7b,k2_7c⟩:=p2_7.c3
 obtain⟨k3_1a,k3_1b,k3_1c⟩:=p3_1.c3
 go_wp2
 exact bodyPost_ret (v:=.agg #[.bool b2_7,.slice a2_7 n2_7 c2_7,.slice d2_7 m2_7 o2_7]) (by simp[results,Tryz.results28,go_sem,k3_1a,k3_1b,k3_1c]) rfl ⟨_,rfl,h2_4,E0⟩
set_option maxRecDepth 100000 in
set_option maxHeartbeats 8000000 in
theorem Tryz.far19 (n:Int) (K:Nat) (hK:K≤40) {va:Value} {x:Rat} {w:World} (h1:-9223372036854775808≤n) (h2:n < 9223372036854775808) (ha:Rw w va x) (sa:SmR 41 x) (hv:Int) (hv1:-9223372036854775808≤hv) (hv2:hv < 9223372036854775808) (hd:Rat.abs (numR K n - x)+Rat.abs (numR K n - x)≤(hv:Rat)*numR K 1):
  Calls Tryz.prog 10 #[.int .i64 n,va,.int .i64 (K:Int),.int .i64 hv] w fun e w'=>e=.returned (.bool true)∧Ext w w':=by
 have HK:=Lib.hid hK
 have HB:=Lib.hid (And.intro h1 h2)
 have HC:=Lib.hid (And.intro hv1 hv2)
 have SN:Hid (SmR 41 (numR K n)):=Lib.hid ((SmR.num h1 h2 hK).mono (by omega))
 have SA:=Lib.hid sa
 have SD:Hid (SmR 83 (Rat.abs (numR K n - x))):=Lib.hid (SmR.abs (SN.out.sub SA.out))
 have SDD:Hid (SmR 167 (Rat.abs (numR K n - x)+Rat.abs (numR K n - x))):=Lib.hid (SD.out.add SD.out)
 have SH:Hid (SmR 4 (hv:Rat)):=Lib.hid ((SmR.ofInt (n:=hv) hv1 hv2).mono (by omega))
 have SU:Hid (SmR 4 (numR K 1)):=Lib.hid (SmR.num (by omega) (by omega) hK)
 have SHU:Hid (SmR 167 ((hv:Rat)*numR K 1)):=Lib.hid ((SH.out.mul SU.out).mono (by omega))
 obtain⟨c,hc⟩:∃ c:Int,(if Rat.abs (numR K n - x)+Rat.abs (numR K n - x) < (hv:Rat)*numR K 1 then (-1:Int) else if (hv:Rat)*numR K 1 < Rat.abs (numR K n - x)+Rat.abs (numR K n - x) then 1 else 0)=c:=⟨_,rfl⟩
 have hcl:c≤0:=by rw[← hc];exact cmp_fewer hd
 have HC2:=Lib.hid hc
 have hcd:decide (c≤0)=true:=decide_eq_true hcl
 clear hK h1 h2 sa hv1 hv2 hd hc
 obtain⟨b1,a1,n1,c1,d1,m1,o1,rfl,q1⟩:∃ b a n c d m o,va=.agg #[.bool b,.slice a n c,.slice d m o]∧True:=let ⟨b,a,n,c,d,m,o,e,_⟩:=ha;⟨b,a,n,c,d,m,o,e,trivial⟩
 clear q1
 obtain⟨W0,hW0,E0,p5⟩:=boxed1 w 45 #[.bool b1,.slice a1 n1 c1,.slice d1 m1 o1]
 replace p5:=p5.b3
 replace ha:Rw W0 (.agg #[.bool b1,.slice a1 n1 c1,.slice d1 m1 o1]) x:=ha.ext E0
 go_enter Tryz.func10,Tryz.ntmps10
 obtain⟨k5a,k5b,k5c⟩:=p5.c3
 go_upto_region 1 with (fail)
 rw[← hW0]
 clear hW0;clear k5a k5b k5c;have ltp5:=p5.lt;have szw4:=Ext.size E0
 refine region_gs [isV (.int .i64 n),isV (.int .i64 (K:Int)),
   .one fun v W=>Rw W v (numR K n),
   isV (.agg #[.bool b1,.slice a1 n1 c1,.slice d1 m1 o1]),
   .one fun v W=>Rw W v (numR K n - x),
   .one fun v W=>Rw W v (Rat.abs (numR K n - x)),
   .one fun v W=>∃ g,v=.pointer (some ⟨g,0,none⟩)∧W0.heap.size≤g∧Form W g 45 3,
   .three 6 5 (fun p r _ W=>Put3 W0.heap.size 45 p r W)]
  (fun W=>Ext w W∧Rw W (.agg #[.bool b1,.slice a1 n1 c1,.slice d1 m1 o1]) x∧Bx3 W w.heap.size 45 (.bool b1) (.slice a1 n1 c1) (.slice d1 m1 o1)∧W0.heap.size≤W.heap.size) ⟨Good.is _,Good.is _,Good.rat _,Good.is _,Good.rat _,Good.rat _,Good.box _ _ _,cert_put3,trivial⟩
  ⟨E0,ha,p5,Nat.le_refl _⟩ (A:=?A4) ?hA4 ?howe4 ?hfin4
 case hA4=>
  intro vs
  simp only[putAll,Act.put,sA,sZ,sS,Nat.zero_add,Nat.reduceAdd]
  exact rfl
 case howe4=>
  clear E0 ha p5
  intro hf
  refine⟨oP0 0 [] hf rfl,oP0 1 [] hf rfl,oE 2 [0,1] hf rfl ?_,oE 3 [] hf rfl ?_,oE 4 [2,3] hf rfl ?_,oE 5 [4] hf rfl ?_,oE 6 [] hf rfl ?_,oW 7 [6,5] hf rfl ?_,trivial⟩
  all_goals intro vs W hS hp hx KO hKO
  all_goals simp only[Act.put,sA,sZ,sS]at hKO
  ·have e0:=isOf hp.1;have e1:=isOf hp.2.1;simp only[e0,e1]at hKO;go_simp
   refine(Tryz.num19 n K HK.out _ HB.out.1 HB.out.2).mono ?_
   rintro e W1 ⟨v,rfl,hv,hE⟩
   exact hKO _ W1 hE hv
  ·have fc0:=hS.2.2.1.cell0;have fc1:=hS.2.2.1.cell1;have fc2:=hS.2.2.1.cell2;go_simp;exact hKO _ W (.refl W) rfl
  ·have q2:=hp.1;have e3:=isOf hp.2.1;simp only[e3]at hKO;go_simp
   refine(Tryz.refRSub q2 (hS.2.1) SN.out SA.out (by omega)).mono ?_
   rintro e W1 ⟨v,rfl,hv,hE⟩
   exact hKO _ W1 hE hv
  ·have q4:=hp.1;go_simp
   refine(Tryz.refRAbs q4).mono ?_
   rintro e W1 ⟨v,rfl,hv,hE⟩
   exact hKO _ W1 hE hv
  ·have hn:=Bx3.new W 45 (.bool false) (.slice none 0 0) (.slice none 0 0)
   have hE:=Ext.alloc1 W (.cells #[.bool false,.slice none 0 0,.slice none 0 0] 45)
   have hsz:=hS.2.2.2
   go_simp
   exact hKO _ _ hE ⟨_,rfl,hsz,hn.form⟩
  ·have q6:=hp.1;have q5:=hp.2.1
   obtain⟨g,ev,hg,hf⟩:=q6
   replace ev:vs 6=_:=ev
   obtain⟨x0_0,x0_1,x0_2,hx,hno⟩:=hf.bx3
   have qr:=q5
   obtain⟨b3,a3,n3,c3,d3,m3,o3,er,-,-,-⟩:=qr
   replace er:vs 5=_:=er
   have r0:=hx.froz0
   have t0:=hx.cell0
   have r1:=hx.froz1
   have t1:=hx.cell1
   have r2:=hx.froz2
   have t2:=hx.cell2
   have hw:=Wr.set3 hx hno b3 a3 n3 c3 d3 m3 o3
   have hq:=hx.set (.bool b3) (.slice a3 n3 c3) (.slice d3 m3 o3)
   simp only[ev,er]at hKO;go_simp
   exact hKO _ _ hw ⟨(Ext.wr hS.1 hw (by omega)),(hS.2.1.wr hw),(hS.2.2.1.wr hw (by omega)),(Nat.le_trans hS.2.2.2 hw.apart.size)⟩ ⟨g,b3,a3,n3,c3,d3,m3,o3,ev,er,hg,hq⟩
 intro vs W4 hS hp
 clear szw4 E0 ha p5
 obtain⟨E0,ha,p5,sz4⟩:=hS
 obtain⟨h4_0,h4_1,h4_2,h4_3,h4_4,h4_5,h4_6,h4_7,-⟩:=hp
 obtain⟨g4_7,b4_7,a4_7,n4_7,c4_7,d4_7,m4_7,o4_7,ev4_7,er4_7,hg4_7,p4_7⟩:=h4_7
 replace ev4_7:vs 6=_:=ev4_7;replace er4_7:vs 5=_:=er4_7;replace h4_5:=(show Rw W4 (vs 5) (Rat.abs (numR K n - x)) from h4_5)
 rw[er4_7]at h4_5
 simp only[ev4_7,er4_7,isOf h4_0,isOf h4_1,isOf h4_3]
 replace h4_2:Rw W4 (vs 2) (numR K n):=h4_2
 generalize vs 2=u4_2 at h4_2 ⊢
 replace h4_4:Rw W4 (vs 4) (numR K n - x):=h4_4
 generalize vs 4=u4_4 at h4_4 ⊢
 clear ev4_7 er4_7 h4_0 h4_1 h4_3 h4_6
 obtain⟨k5a,k5b,k5c⟩:=p5.c3
 obtain⟨k4_7a,k4_7b,k4_7c⟩:=p4_7.c3
 go_upto_region 2 with (fail)
 clear k5a k5b k5c k4_7a k4_7b k4_7c;have ltp4_7:=p4_7.lt;have szw5:=Ext.size E0
 refine region_gk [isV (.agg #[.bool b4_7,.slice a4_7 n4_7 c4_7,.slice d4_7 m4_7 o4_7]),isV (.agg #[.bool b4_7,.slice a4_7 n4_7 c4_7,.slice d4_7 m4_7 o4_7]),
   .one fun v W=>Rw W v (Rat.abs (numR K n - x)+Rat.abs (numR K n - x)),
   isV (.int .i64 hv),
   .one fun v W=>Rw W v ((hv:Rat)),
   isV (.int .i64 (K:Int)),
   .one fun v W=>Rw W v (numR K 1),
   .one fun v W=>Rw W v ((hv:Rat)*numR K 1),
   isV (.int .i64 c),isV (.bool true),
   .one fun v _=>v=.bool true] ⟨Good.is _,Good.is _,Good.rat _,Good.is _,Good.rat _,Good.is _,Good.rat _,Good.rat _,Good.is _,Good.is _,Good.is _,trivial⟩ (E0.s.k (ha.s.k (p5.s.k (h4_5.s.k (p4_7.s.k (h4_2.s.k (h4_4.s))))))) (A:=?A5) ?hA5 ?howe5 ?hfin5
 case hA5=>
  intro vs
  simp only[putAll,Act.put,sA,sZ,sS,Nat.zero_add,Nat.reduceAdd]
  exact rfl
 case howe5=>
  clear E0 ha p5 h4_5 p4_7 h4_2 h4_4
  intro hf
  refine⟨oE 0 [] hf rfl ?_,oE 1 [] hf rfl ?_,oE 2 [0,1] hf rfl ?_,oP0 3 [] hf rfl,oE 4 [3] hf rfl ?_,oP0 5 [] hf rfl,oE 6 [5] hf rfl ?_,oE 7 [4,6] hf rfl ?_,oE 8 [2,7] hf rfl ?_,oE 9 [8] hf rfl ?_,oP1 10 [9] hf rfl,trivial⟩
  all_goals intro vs W hS hp hx KO hKO
  all_goals simp only[Act.put,sA,sZ,sS]at hKO
  ·have fc0:=hS.1.2.2.2.2.1.cell0;have fc1:=hS.1.2.2.2.2.1.cell1;have fc2:=hS.1.2.2.2.2.1.cell2;go_simp;exact hKO _ W (.refl W) rfl
  ·have fc0:=hS.1.2.2.2.2.1.cell0;have fc1:=hS.1.2.2.2.2.1.cell1;have fc2:=hS.1.2.2.2.2.1.cell2;go_simp;exact hKO _ W (.refl W) rfl
  ·have e0:=isOf hp.1;have e1:=isOf hp.2.1;simp only[e0,e1]at hKO;go_simp
   refine(Tryz.refRAdd (hS.1.2.2.2.1) (hS.1.2.2.2.1) SD.out SD.out (by omega)).mono ?_
   rintro e W1 ⟨v,rfl,hv,hE⟩
   exact hKO _ W1 hE hv
  ·have e3:=isOf hp.1;simp only[e3]at hKO;go_simp
   refine(Tryz.refROf hv _ HC.out.1 HC.out.2).mono ?_
   rintro e W1 ⟨v,rfl,hv,hE⟩
   exact hKO _ W1 hE hv
  ·have e5:=isOf hp.1;simp only[e5]at hKO;go_simp
   refine(Tryz.num19 1 K HK.out _ (by omega) (by omega)).mono ?_
   rintro e W1 ⟨v,rfl,hv,hE⟩
   exact hKO _ W1 hE hv
  ·have q4:=hp.1;have q6:=hp.2.1;go_simp
   refine(Tryz.refRMul q4 q6 SH.out SU.out (by omega)).mono ?_
   rintro e W1 ⟨v,rfl,hv,hE⟩
   exact hKO _ W1 hE hv
  ·have q2:=hp.1;have q7:=hp.2.1;go_simp
   refine(Tryz.refRCmp q2 q7 SDD.out.1 SDD.out.2 SHU.out.1 SHU.out.2 (by omega)).mono ?_
   rintro e W1 ⟨rfl,hE⟩
   rw[HC2.out]
   exact hKO _ W1 hE rfl
  ·have e8:=isOf hp.1;simp only[e8]at hKO;go_simp;exact hKO _ W (Ext.refl W) (by first | rfl | exact congrArg Value.bool (by simpa using hcl))
 intro vs W5 hS hp
 clear szw5 E0 ha p5 h4_5 p4_7 h4_2 h4_4
 obtain⟨⟨E0,ha,p5,h4_5,p4_7,h4_2,h4_4⟩,sz5⟩:=hS
 obtain⟨h5_0,h5_1,h5_2,h5_3,h5_4,h5_5,h5_6,h5_7,h5_8,h5_9,h5_10,-⟩:=hp
 simp only[isOf h5_0,isOf h5_1,isOf h5_3,isOf h5_5,isOf h5_8,isOf h5_9,isOf h5_10]
 replace h5_2:Rw W5 (vs 2) (Rat.abs (numR K n - x)+Rat.abs (numR K n - x)):=h5_2
 generalize vs 2=u5_2 at h5_2 ⊢
 replace h5_4:Rw W5 (vs 4) ((hv:Rat)):=h5_4
 generalize vs 4=u5_4 at h5_4 ⊢
 replace h5_6:Rw W5 (vs 6) (numR K 1):=h5_6
 generalize vs 6=u5_6 at h5_6 ⊢
 replace h5_7:Rw W5 (vs 7) ((hv:Rat)*numR K 1):=h5_7
 generalize vs 7=u5_7 at h5_7 ⊢
 clear h5_0 h5_1 h5_3 h5_5 h5_8 h5_9 h5_10
 obtain⟨k5a,k5b,k5c⟩:=p5.c3
 obtain⟨k4_7a,k4_7b,k4_7c⟩:=p4_7.c3
 go_wp2;go_ret
 exact⟨rfl,E0⟩
set_option maxRecDepth 100000 in
set_option maxHeartbeats 8000000 in
theorem Tryz.squares19 {ag:Option Addr} {ng cg:Nat} {lg:List Int} (lr ep d:Int) (K s st m:Nat) (hK:K≤40) (he:I64 ep) (h0:0 < m) (hm:m≤40) (hst:st≤1000) (hs:s≤1000) (hx:∀ i,i < m→s+i*st < ng) {w:World} (hg:Iw 0 w.heap.size w ag ng cg lg):
  Calls Tryz.prog 12 #[.agg #[.int .i64 lr,.int .i64 ep,.int .i64 d],.int .i64 (K:Int),.slice ag ng cg,.agg #[.int .i64 (s:Int),.int .i64 (st:Int),.int .i64 (m:Int)]] w fun e w'=>∃ v',e=.returned v'∧Rw w' v' (sqM K ep lg s st m)∧Ext w w':=by
 have HK:=Lib.hid hK
 have HE:=Lib.hid he
 have HM:=Lib.hid (And.intro h0 hm)
 have HB:=Lib.hid (And.intro hst hs)
 have HX:=Lib.hid hx
 have HG:Hid (∀ i,I64 (atL lg i)):=Lib.hid (fun i=>atL_i64 hg.in64 i)
 clear hK he h0 hm hst hs hx
 obtain⟨W0,hW0,E0,p4,p7,p8⟩:=boxed3 w 23 #[.int .i64 lr,.int .i64 ep,.int .i64 d] 48 #[.int .i64 (s:Int),.int .i64 (st:Int),.int .i64 (m:Int)] 45 #[.bool false,.slice none 0 0,.slice none 0 0]
 replace p4:=p4.b3
 replace p7:=p7.b3
 replace p8:=p8.b3
 replace hg:Iw 0 w.heap.size W0 ag ng cg (lg):=hg.ext E0
 go_enter Tryz.func12,Tryz.ntmps12
 obtain⟨k4a,k4b,k4c⟩:=p4.c3
 obtain⟨k7a,k7b,k7c⟩:=p7.c3
 obtain⟨k8a,k8b,k8c⟩:=p8.c3
 go_upto_region 1 with (fail)
 rw[← hW0]
 clear hW0;clear k4a k4b k4c k7a k7b k7c k8a k8b k8c;have ltp4:=p4.lt;have ltp7:=p7.lt;have ltp8:=p8.lt;have szw6:=Ext.size E0
 refine region_gs [.one fun v W=>Rw W v (((0:Int):Rat)),
   .one fun v W=>∃ g,v=.pointer (some ⟨g,0,none⟩)∧W0.heap.size≤g∧Form W g 45 3,
   .three 1 0 (fun p r _ W=>Put3 W0.heap.size 45 p r W)]
  (fun W=>Ext w W∧Iw 0 w.heap.size W ag ng cg (lg)∧Bx3 W w.heap.size 23 (.int .i64 lr) (.int .i64 ep) (.int .i64 d)∧Bx3 W (w.heap.size+1) 48 (.int .i64 (s:Int)) (.int .i64 (st:Int)) (.int .i64 (m:Int))∧Bx3 W (w.heap.size+1+1) 45 (.bool false) (.slice none 0 0) (.slice none 0 0)∧W0.heap.size≤W.heap.size) ⟨Good.rat _,Good.box _ _ _,cert_put3,trivial⟩
  ⟨E0,hg,p4,p7,p8,Nat.le_refl _⟩ (A:=?A6) ?hA6 ?howe6 ?hfin6
 case hA6=>
  intro vs
  simp only[putAll,Act.put,sA,sZ,sS,Nat.zero_add]
  exact rfl
 case howe6=>
  clear E0 hg p4 p7 p8
  intro hf
  refine⟨oE 0 [] hf rfl ?_,oE 1 [] hf rfl ?_,oW 2 [1,0] hf rfl ?_,trivial⟩
  all_goals intro vs W hS hp hx KO hKO
  all_goals simp only[Act.put,sA,sZ,sS]at hKO
  ·go_simp
   refine(Tryz.refROf 0 _ (by omega) (by omega)).mono ?_
   rintro e W1 ⟨v,rfl,hv,hE⟩
   exact hKO _ W1 hE hv
  ·have hn:=Bx3.new W 45 (.bool false) (.slice none 0 0) (.slice none 0 0)
   have hE:=Ext.alloc1 W (.cells #[.bool false,.slice none 0 0,.slice none 0 0] 45)
   have hsz:=hS.2.2.2.2.2
   go_simp
   exact hKO _ _ hE ⟨_,rfl,hsz,hn.form⟩
  ·have q1:=hp.1;have q0:=hp.2.1
   obtain⟨g,ev,hg,hf⟩:=q1
   replace ev:vs 1=_:=ev
   obtain⟨x0_0,x0_1,x0_2,hx,hno⟩:=hf.bx3
   have qr:=q0
   obtain⟨b3,a3,n3,c3,d3,m3,o3,er,-,-,-⟩:=qr
   replace er:vs 0=_:=er
   have r0:=hx.froz0
   have t0:=hx.cell0
   have r1:=hx.froz1
   have t1:=hx.cell1
   have r2:=hx.froz2
   have t2:=hx.cell2
   have hw:=Wr.set3 hx hno b3 a3 n3 c3 d3 m3 o3
   have hq:=hx.set (.bool b3) (.slice a3 n3 c3) (.slice d3 m3 o3)
   simp only[ev,er]at hKO;go_simp
   exact hKO _ _ hw ⟨(Ext.wr hS.1 hw (by omega)),(hS.2.1.wr hw (by omega)),(hS.2.2.1.wr hw (by omega)),(hS.2.2.2.1.wr hw (by omega)),(hS.2.2.2.2.1.wr hw (by omega)),(Nat.le_trans hS.2.2.2.2.2 hw.apart.size)⟩ ⟨g,b3,a3,n3,c3,d3,m3,o3,ev,er,hg,hq⟩
 intro vs W6 hS hp
 clear szw6 E0 hg p4 p7 p8
 obtain⟨E0,hg,p4,p7,p8,sz6⟩:=hS
 obtain⟨h6_0,h6_1,h6_2,-⟩:=hp
 obtain⟨g6_2,b6_2,a6_2,n6_2,c6_2,d6_2,m6_2,o6_2,ev6_2,er6_2,hg6_2,p6_2⟩:=h6_2
 replace ev6_2:vs 1=_:=ev6_2;replace er6_2:vs 0=_:=er6_2;replace h6_0:=(show Rw W6 (vs 0) (((0:Int):Rat)) from h6_0)
 rw[er6_2]at h6_0
 simp only[ev6_2,er6_2]
 clear ev6_2 er6_2 h6_1
 obtain⟨k4a,k4b,k4c⟩:=p4.c3
 obtain⟨k7a,k7b,k7c⟩:=p7.c3
 obtain⟨k8a,k8b,k8c⟩:=p8.c3
 obtain⟨k6_2a,k6_2b,k6_2c⟩:=p6_2.c3
 go_wp2_with fail
 clear k4a k4b k4c k7a k7b k7c k8a k8b k8c k6_2a k6_2b k6_2c
 go_loopw [10] (fun i wr=>∃ (k:Nat) (b:Bool) (a:Option Addr) (n cc:Nat) (dd:Option Addr) (mm oo:Nat),i=.int .i64 (k:Int)∧k≤m∧Bx3 wr g6_2 45 (.bool b) (.slice a n cc) (.slice dd mm oo)∧Rw wr (.agg #[.bool b,.slice a n cc,.slice dd mm oo]) (sqS K ep lg s st k)∧Ext w wr∧Iw 0 w.heap.size wr ag ng cg (lg)∧Bx3 wr w.heap.size 23 (.int .i64 lr) (.int .i64 ep) (.int .i64 d)∧Bx3 wr (w.heap.size+1) 48 (.int .i64 (s:Int)) (.int .i64 (st:Int)) (.int .i64 (m:Int))∧Bx3 wr (w.heap.size+1+1) 45 (.bool false) (.slice none 0 0) (.slice none 0 0)) (fun i _=>m - (intOf i).toNat)
 case atStart=>exact⟨0,_,_,_,_,_,_,_,rfl,Nat.zero_le _,p6_2,h6_0,E0,hg,p4,p7,p8⟩
 case round=>
  clear p6_2 h6_0 E0 hg p4 p7 p8
  obtain⟨k,b,a,n,cc,dd,mm,oo,rfl,hk,pz,hz,E0,hg,p4,p7,p8⟩:=hrel
  by_cases hlt:k < m
  ·have hltI:(k:Int) < (m:Int):=by omega
   obtain⟨q,hq⟩:∃ q,q=k*st:=⟨_,rfl⟩
   obtain⟨ii,hii⟩:∃ i,i=s+q:=⟨_,rfl⟩
   have HII:Hid (ii=s+k*st):=Lib.hid (by rw[hii,hq])
   have hil:ii < ng:=by rw[HII.out];exact HX.out k hlt
   have hqm:q≤40000:=by rw[hq];exact Nat.le_trans (Nat.mul_le_mul (show k≤40 by have:=HM.out;omega) HB.out.1) (by decide)
   have hw1:IntKind.i64.wrap ((k:Int)*(st:Int))=(q:Int):=by rw[← Int.natCast_mul,← hq,IntKind.wrap_i64];omega
   have hw2:IntKind.i64.wrap ((s:Int)+(q:Int))=(ii:Int):=by rw[IntKind.wrap_i64];have:=HB.out;omega
   have hiI:(ii:Int) < (ng:Int):=by omega
   have hi0:(0:Int)≤(ii:Int):=by omega
   have hi63:(ii:Int) < 9223372036854775807:=by have:=HB.out;omega
   have hk63:(k:Int) < 9223372036854775807:=by have:=HM.out;omega
   obtain⟨bg,og,ea,-,-⟩:=hg.some (by omega)
   subst ea
   have HLT:=Lib.hid hlt
   clear hq hii hk
   have SX:Hid (SmR 4 (numR K (atL lg ii))):=Lib.hid (SmR.num (HG.out ii).1 (HG.out ii).2 HK.out)
   have SE:Hid (SmR 4 (numR K ep)):=Lib.hid (SmR.num HE.out.1 HE.out.2 HK.out)
   have SXX:Hid (SmR 8 (numR K (atL lg ii)*numR K (atL lg ii))):=Lib.hid (SX.out.mul SX.out)
   have ST:Hid (SmR 17 (numR K (atL lg ii)*numR K (atL lg ii)+numR K ep)):=Lib.hid (SXX.out.add (SE.out.mono (by omega)))
   have SS:Hid (SmR 17 (sqS K ep lg s st k)):=Lib.hid ((sqS_sm HE.out HG.out HK.out (by have:=HM.out;omega)).mono (by omega))
   obtain⟨k4a,k4b,k4c⟩:=p4.c3
   obtain⟨k7a,k7b,k7c⟩:=p7.c3
   obtain⟨k8a,k8b,k8c⟩:=p8.c3
   obtain⟨kpz_0,kpz_1,kpz_2⟩:=pz.c3
   go_upto_region 5 with (fail)
   clear k4a k4b k4c k7a k7b k7c k8a k8b k8c kpz_0 kpz_1 kpz_2;have ltp4:=p4.lt;have ltp7:=p7.lt;have ltp8:=p8.lt;have ltpz:=pz.lt;have szw7:=Ext.size E0
   refine region_gs [isV (.slice (some ⟨bg,og,none⟩) ng cg),isV (.pointer (some ⟨w.heap.size+1,0,none⟩)),isV (.int .i64 (s:Int)),isV (.int .i64 (k:Int)),isV (.pointer (some ⟨w.heap.size+1,1,none⟩)),isV (.int .i64 (st:Int)),isV (.int .i64 (q:Int)),isV (.int .i64 (ii:Int)),isV (.pointer (some ⟨bg,og+ii,none⟩)),isV (.int .i64 (atL lg ii)),isV (.int .i64 (K:Int)),
     .one fun v W=>Rw W v (numR K (atL lg ii)),
     .one fun v W=>∃ g,v=.pointer (some ⟨g,0,none⟩)∧wr.heap.size≤g∧Form W g 45 3,
     .three 12 11 (fun p r _ W=>Put3 wr.heap.size 45 p r W)]
    (fun W=>Ext w W∧Iw 0 w.heap.size W (some ⟨bg,og,none⟩) ng cg (lg)∧Bx3 W w.heap.size 23 (.int .i64 lr) (.int .i64 ep) (.int .i64 d)∧Bx3 W (w.heap.size+1) 48 (.int .i64 (s:Int)) (.int .i64 (st:Int)) (.int .i64 (m:Int))∧Bx3 W (w.heap.size+1+1) 45 (.bool false) (.slice none 0 0) (.slice none 0 0)∧Bx3 W g6_2 45 (.bool b) (.slice a n cc) (.slice dd mm oo)∧Rw W (.agg #[.bool b,.slice a n cc,.slice dd mm oo]) (sqS K ep lg s st k)∧wr.heap.size≤W.heap.size) ⟨Good.is _,Good.is _,Good.is _,Good.is _,Good.is _,Good.is _,Good.is _,Good.is _,Good.is _,Good.is _,Good.is _,Good.rat _,Good.box _ _ _,cert_put3,trivial⟩
    ⟨E0,hg,p4,p7,p8,pz,hz,Nat.le_refl _⟩ (A:=?A7) ?hA7 ?howe7 ?hfin7
   case hA7=>
    intro vs
    simp only[putAll,Act.put,sA,sZ,sS,Nat.zero_add,Nat.reduceAdd]
    exact rfl
   case howe7=>
    clear E0 hg p4 p7 p8 pz hz
    intro hf
    refine⟨oP0 0 [] hf rfl,oP0 1 [] hf rfl,oE 2 [1] hf rfl ?_,oP0 3 [] hf rfl,oP0 4 [] hf rfl,oE 5 [4] hf rfl ?_,oP2 6 [3,5] hf rfl,oP2 7 [2,6] hf rfl,oP2 8 [0,7] hf rfl,oE 9 [8] hf rfl ?_,oP0 10 [] hf rfl,oE 11 [9,10] hf rfl ?_,oE 12 [] hf rfl ?_,oW 13 [12,11] hf rfl ?_,trivial⟩
    all_goals intro vs W hS hp hx KO hKO
    all_goals simp only[Act.put,sA,sZ,sS]at hKO
    ·have e1:=isOf hp.1;simp only[e1]at hKO;have fc0:=hS.2.2.2.1.cell0;go_simp;exact hKO _ W (.refl W) rfl
    ·have e4:=isOf hp.1;simp only[e4]at hKO;have fc1:=hS.2.2.2.1.cell1;go_simp;exact hKO _ W (.refl W) rfl
    ·have e8:=isOf hp.1;simp only[e8]at hKO
     have fc:=Iw.cell (hS.2.1) (i:=ii) (by omega)
     go_simp;exact hKO _ W (.refl W) rfl
    ·have e9:=isOf hp.1;have e10:=isOf hp.2.1;simp only[e9,e10]at hKO;go_simp
     refine(Tryz.num19 (atL lg ii) K HK.out _ (HG.out ii).1 (HG.out ii).2).mono ?_
     rintro e W1 ⟨v,rfl,hv,hE⟩
     exact hKO _ W1 hE hv
    ·have hn:=Bx3.new W 45 (.bool false) (.slice none 0 0) (.slice none 0 0)
     have hE:=Ext.alloc1 W (.cells #[.bool false,.slice none 0 0,.slice none 0 0] 45)
     have hsz:=hS.2.2.2.2.2.2.2
     go_simp
     exact hKO _ _ hE ⟨_,rfl,hsz,hn.form⟩
    ·have q12:=hp.1;have q11:=hp.2.1
     obtain⟨g,ev,hg,hf⟩:=q12
     replace ev:vs 12=_:=ev
     obtain⟨x0_0,x0_1,x0_2,hx,hno⟩:=hf.bx3
     have qr:=q11
     obtain⟨b3,a3,n3,c3,d3,m3,o3,er,-,-,-⟩:=qr
     replace er:vs 11=_:=er
     have r0:=hx.froz0
     have t0:=hx.cell0
     have r1:=hx.froz1
     have t1:=hx.cell1
     have r2:=hx.froz2
     have t2:=hx.cell2
     have hw:=Wr.set3 hx hno b3 a3 n3 c3 d3 m3 o3
     have hq:=hx.set (.bool b3) (.slice a3 n3 c3) (.slice d3 m3 o3)
     simp only[ev,er]at hKO;go_simp
     exact hKO _ _ hw ⟨(Ext.wr hS.1 hw (by omega)),(hS.2.1.wr hw (by omega)),(hS.2.2.1.wr hw (by omega)),(hS.2.2.2.1.wr hw (by omega)),(hS.2.2.2.2.1.wr hw (by omega)),(hS.2.2.2.2.2.1.wr hw (by omega)),(hS.2.2.2.2.2.2.1.wr hw),(Nat.le_trans hS.2.2.2.2.2.2.2 hw.apart.size)⟩ ⟨g,b3,a3,n3,c3,d3,m3,o3,ev,er,hg,hq⟩
   intro vs W7 hS hp
   clear szw7 E0 hg p4 p7 p8 pz hz
   obtain⟨E0,hg,p4,p7,p8,pz,hz,sz7⟩:=hS
   obtain⟨h7_0,h7_1,h7_2,h7_3,h7_4,h7_5,h7_6,h7_7,h7_8,h7_9,h7_10,h7_11,h7_12,h7_13,-⟩:=hp
   obtain⟨g7_13,b7_13,a7_13,n7_13,c7_13,d7_13,m7_13,o7_13,ev7_13,er7_13,hg7_13,p7_13⟩:=h7_13
   replace ev7_13:vs 12=_:=ev7_13;replace er7_13:vs 11=_:=er7_13;replace h7_11:=(show Rw W7 (vs 11) (numR K (atL lg ii)) from h7_11)
   rw[er7_13]at h7_11
   simp only[ev7_13,er7_13,isOf h7_0,isOf h7_1,isOf h7_2,isOf h7_3,isOf h7_4,isOf h7_5,isOf h7_6,isOf h7_7,isOf h7_8,isOf h7_9,isOf h7_10]
   clear ev7_13 er7_13 h7_0 h7_1 h7_2 h7_3 h7_4 h7_5 h7_6 h7_7 h7_8 h7_9 h7_10 h7_12
   obtain⟨k4a,k4b,k4c⟩:=p4.c3
   obtain⟨k7a,k7b,k7c⟩:=p7.c3
   obtain⟨k8a,k8b,k8c⟩:=p8.c3
   obtain⟨kpz_0,kpz_1,kpz_2⟩:=pz.c3
   obtain⟨k7_13a,k7_13b,k7_13c⟩:=p7_13.c3
   go_upto_region 6 with (fail)
   clear k4a k4b k4c k7a k7b k7c k8a k8b k8c kpz_0 kpz_1 kpz_2 k7_13a k7_13b k7_13c
   have hr:Rest (fun W=>Bx3 W g6_2 45 (.bool b) (.slice a n cc) (.slice dd mm oo)) g6_2:=⟨fun W W1 h hE=>h.ext hE⟩
   have hRR:=pz
   have fopz:=pz.form;clear pz;have ltf:=fopz.lt;have ltp7_13:=p7_13.lt;have szw8:=Ext.size E0
   refine region_go3 [isV (.agg #[.bool b,.slice a n cc,.slice dd mm oo]),isV (.agg #[.bool b7_13,.slice a7_13 n7_13 c7_13,.slice d7_13 m7_13 o7_13]),isV (.agg #[.bool b7_13,.slice a7_13 n7_13 c7_13,.slice d7_13 m7_13 o7_13]),
     .one fun v W=>Rw W v (numR K (atL lg ii)*numR K (atL lg ii)),
     isV (.pointer (some ⟨w.heap.size,1,none⟩)),isV (.int .i64 ep),isV (.int .i64 (K:Int)),
     .one fun v W=>Rw W v (numR K ep),
     .one fun v W=>Rw W v (numR K (atL lg ii)*numR K (atL lg ii)+numR K ep),
     .one fun v W=>Rw W v (sqS K ep lg s st k+(numR K (atL lg ii)*numR K (atL lg ii)+numR K ep)),
     .two 9 (fun r _ W=>At3 g6_2 45 r W)]
    (fun W=>Ext w W∧Iw 0 w.heap.size W (some ⟨bg,og,none⟩) ng cg (lg)∧Bx3 W w.heap.size 23 (.int .i64 lr) (.int .i64 ep) (.int .i64 d)∧Bx3 W (w.heap.size+1) 48 (.int .i64 (s:Int)) (.int .i64 (st:Int)) (.int .i64 (m:Int))∧Bx3 W (w.heap.size+1+1) 45 (.bool false) (.slice none 0 0) (.slice none 0 0)∧Form W g6_2 45 3∧Rw W (.agg #[.bool b,.slice a n cc,.slice dd mm oo]) (sqS K ep lg s st k)∧Rw W (.agg #[.bool b7_13,.slice a7_13 n7_13 c7_13,.slice d7_13 m7_13 o7_13]) (numR K (atL lg ii))∧Bx3 W g7_13 45 (.bool b7_13) (.slice a7_13 n7_13 c7_13) (.slice d7_13 m7_13 o7_13)∧W7.heap.size≤W.heap.size) W7.heap.size [] [Tag.any,Tag.any,Tag.any,Tag.any,Tag.any,Tag.any,Tag.any,Tag.any,Tag.any,Tag.any,Tag.old (g6_2)] ⟨Good.is _,Good.is _,Good.is _,Good.rat _,Good.is _,Good.is _,Good.is _,Good.rat _,Good.rat _,Good.rat _,tag_at3,trivial⟩ (fun g0 hg=>by simp at hg;omega)
    (fun W W1 hS hE=>⟨(Ext.trans hS.1 hE),(hS.2.1.ext hE),(hS.2.2.1.ext hE),(hS.2.2.2.1.ext hE),(hS.2.2.2.2.1.ext hE),(hS.2.2.2.2.2.1.ext hE),(hS.2.2.2.2.2.2.1.ext hE),(hS.2.2.2.2.2.2.2.1.ext hE),(hS.2.2.2.2.2.2.2.2.1.ext hE),(Nat.le_trans hS.2.2.2.2.2.2.2.2.2 (Ext.size hE))⟩) ⟨E0,hg,p4,p7,p8,fopz,hz,h7_11,p7_13,Nat.le_refl _⟩ (fun m hm=>by simp at hm) 10 hr hRR (by kernel_rfl) (by kernel_rfl) (by kernel_rfl) (by kernel_rfl) (A:=?A8) ?hA8 ?howe8 ?hfin8
   case hA8=>
    intro vs
    simp only[putAll,Act.put,sA,sZ,sS,Nat.zero_add,Nat.reduceAdd]
    exact rfl
   case howe8=>
    clear E0 hg p4 p7 p8 fopz hz h7_11 p7_13
    intro hf
    refine⟨owesR3 0 [] hf hr rfl rfl (by kernel_rfl) rfl rfl rfl (by kernel_rfl) ?_,owesM3 1 [] hf hr rfl rfl rfl (by kernel_rfl) ?_,owesM3 2 [] hf hr rfl rfl rfl (by kernel_rfl) ?_,owesM3 3 [1,2] hf hr rfl rfl rfl (by kernel_rfl) ?_,owesM3 4 [] hf hr rfl rfl rfl (by kernel_rfl) ?_,owesM3 5 [4] hf hr rfl rfl rfl (by kernel_rfl) ?_,owesM3 6 [] hf hr rfl rfl rfl (by kernel_rfl) ?_,owesM3 7 [5,6] hf hr rfl rfl rfl (by kernel_rfl) ?_,owesM3 8 [3,7] hf hr rfl rfl rfl (by kernel_rfl) ?_,owesM3 9 [0,8] hf hr rfl rfl rfl (by kernel_rfl) ?_,owesL3 (g6_2) [9] hf rfl (by omega) ⟨.inr trivial,.inr trivial,.inr trivial,.inr trivial,.inr trivial,.inr trivial,.inr trivial,.inr trivial,.inr trivial,.inr trivial,.inl rfl,trivial⟩ rfl (by kernel_rfl) ?_,trivial⟩
    all_goals intro vs W hS hp hx KO hKO
    all_goals simp only[Act.put,sA,sZ,sS]at hKO
    ·have hb0:Bx3 W g6_2 45 (.bool b) (.slice a n cc) (.slice dd mm oo):=hS.2
     have fc0:=hb0.cell0;have fc1:=hb0.cell1;have fc2:=hb0.cell2;clear hb0;go_simp;exact hKO _ W (.refl W) rfl
    ·have fc0:=hS.2.2.2.2.2.2.2.2.1.cell0;have fc1:=hS.2.2.2.2.2.2.2.2.1.cell1;have fc2:=hS.2.2.2.2.2.2.2.2.1.cell2;go_simp;exact hKO _ W (.refl W) rfl
    ·have fc0:=hS.2.2.2.2.2.2.2.2.1.cell0;have fc1:=hS.2.2.2.2.2.2.2.2.1.cell1;have fc2:=hS.2.2.2.2.2.2.2.2.1.cell2;go_simp;exact hKO _ W (.refl W) rfl
    ·have e1:=isOf hp.1;have e2:=isOf hp.2.1;simp only[e1,e2]at hKO;go_simp
     refine(Tryz.refRMul (hS.2.2.2.2.2.2.2.1) (hS.2.2.2.2.2.2.2.1) SX.out SX.out (by omega)).mono ?_
     rintro e W1 ⟨v,rfl,hv,hE⟩
     exact hKO _ W1 hE hv
    ·go_simp;exact hKO _ W (.refl W) rfl
    ·have e4:=isOf hp.1;simp only[e4]at hKO;have fc1:=hS.2.2.1.cell1;go_simp;exact hKO _ W (.refl W) rfl
    ·go_simp;exact hKO _ W (.refl W) rfl
    ·have e5:=isOf hp.1;have e6:=isOf hp.2.1;simp only[e5,e6]at hKO;go_simp
     refine(Tryz.num19 ep K HK.out _ HE.out.1 HE.out.2).mono ?_
     rintro e W1 ⟨v,rfl,hv,hE⟩
     exact hKO _ W1 hE hv
    ·have q3:=hp.1;have q7:=hp.2.1;go_simp
     refine(Tryz.refRAdd q3 q7 (SXX.out.mono (by omega)) (SE.out.mono (by omega)) (L:=8) (by omega)).mono ?_
     rintro e W1 ⟨v,rfl,hv,hE⟩
     exact hKO _ W1 hE hv
    ·have e0:=isOf hp.1;have q8:=hp.2.1;simp only[e0]at hKO;go_simp
     refine(Tryz.refRAdd (hS.2.2.2.2.2.2.1) q8 SS.out ST.out (by omega)).mono ?_
     rintro e W1 ⟨v,rfl,hv,hE⟩
     exact hKO _ W1 hE hv
    ·have q9:=hp.1
     have qr:=q9
     obtain⟨b3,a3,n3,c3,d3,m3,o3,er,-,-,-⟩:=qr
     replace er:vs 9=_:=er
     have hf:=hS.2.2.2.2.2.1
     obtain⟨x0_0,x0_1,x0_2,hx2,hno⟩:=hf.bx3
     have r0:=hx2.froz0
     have t0:=hx2.cell0
     have r1:=hx2.froz1
     have t1:=hx2.cell1
     have r2:=hx2.froz2
     have t2:=hx2.cell2
     have hw:=Wr.set3 hx2 hno b3 a3 n3 c3 d3 m3 o3
     have hq:=hx2.set (.bool b3) (.slice a3 n3 c3) (.slice d3 m3 o3)
     simp only[er]at hKO;clear hf hx2;go_simp
     exact hKO _ hw ⟨(Ext.wr hS.1 hw (by omega)),(hS.2.1.wr hw (by omega)),(hS.2.2.1.wr hw (by omega)),(hS.2.2.2.1.wr hw (by omega)),(hS.2.2.2.2.1.wr hw (by omega)),(hS.2.2.2.2.2.1.wr hw),(hS.2.2.2.2.2.2.1.wr hw),(hS.2.2.2.2.2.2.2.1.wr hw),(hS.2.2.2.2.2.2.2.2.1.wr hw (by omega)),(Nat.le_trans hS.2.2.2.2.2.2.2.2.2 hw.apart.size)⟩ ⟨_,_,_,_,_,_,_,er,hq⟩
   intro vs W8 hS hM hp
   clear szw8 E0 hg p4 p7 p8 fopz hz h7_11 p7_13
   obtain⟨E0,hg,p4,p7,p8,fopz,hz,h7_11,p7_13,sz8⟩:=hS
   obtain⟨h8_0,h8_1,h8_2,h8_3,h8_4,h8_5,h8_6,h8_7,h8_8,h8_9,h8_10,-⟩:=hp
   have hh:=h8_10
   obtain⟨bs2,as2,ns2,cs2,ds2,ms2,os2,ers2,pz⟩:=hh
   replace ers2:vs 9=_:=ers2;clear fopz
   have hzs2:Rw W8 (vs 9) (sqS K ep lg s st k+(numR K (atL lg ii)*numR K (atL lg ii)+numR K ep)):=h8_9
   rw[ers2]at hzs2
   clear hM
   simp only[ers2,isOf h8_0,isOf h8_1,isOf h8_2,isOf h8_4,isOf h8_5,isOf h8_6]
   replace h8_3:Rw W8 (vs 3) (numR K (atL lg ii)*numR K (atL lg ii)):=h8_3
   generalize vs 3=u8_3 at h8_3 ⊢
   replace h8_7:Rw W8 (vs 7) (numR K ep):=h8_7
   generalize vs 7=u8_7 at h8_7 ⊢
   replace h8_8:Rw W8 (vs 8) (numR K (atL lg ii)*numR K (atL lg ii)+numR K ep):=h8_8
   generalize vs 8=u8_8 at h8_8 ⊢
   replace h8_9:Rw W8 (vs 9) (sqS K ep lg s st k+(numR K (atL lg ii)*numR K (atL lg ii)+numR K ep)):=h8_9
   generalize vs 9=u8_9 at h8_9 ⊢
   clear ers2 h8_0 h8_1 h8_2 h8_4 h8_5 h8_6 h8_10;clear hr hRR ltf
   obtain⟨k4a,k4b,k4c⟩:=p4.c3
   obtain⟨k7a,k7b,k7c⟩:=p7.c3
   obtain⟨k8a,k8b,k8c⟩:=p8.c3
   obtain⟨k7_13a,k7_13b,k7_13c⟩:=p7_13.c3
   obtain⟨kpz_0,kpz_1,kpz_2⟩:=pz.c3
   go_wp2;clear k4a k4b k4c k7a k7b k7c k8a k8b k8c k7_13a k7_13b k7_13c kpz_0 kpz_1 kpz_2
   have HSS:Hid (sqS K ep lg s st (k+1)=sqS K ep lg s st k+(numR K (atL lg ii)*numR K (atL lg ii)+numR K ep)):=Lib.hid (by rw[HII.out];rfl)
   go_roundw
   case rel=>exact⟨k+1,_,_,_,_,_,_,_,by go_num,HLT.out,pz,by rw[HSS.out];exact hzs2,E0,hg,p4,p7,p8⟩
   case measure=>simp[intOf];have:=HLT.out;omega
  ·have ek:m=k:=by omega
   subst ek
   have hge:¬ (m:Int) < (m:Int):=by omega
   clear hlt hk
   have SS:Hid (SmR 5 (sqS K ep lg s st m)):=Lib.hid (sqS_sm HE.out HG.out HK.out HM.out.2)
   have SF:Hid (SmR 5 (mkRat 1 m)):=Lib.hid ((SmR.frac HM.out.1 HM.out.2).mono (by omega))
   obtain⟨k4a,k4b,k4c⟩:=p4.c3
   obtain⟨k7a,k7b,k7c⟩:=p7.c3
   obtain⟨k8a,k8b,k8c⟩:=p8.c3
   obtain⟨kpz_0,kpz_1,kpz_2⟩:=pz.c3
   go_upto_region 7 with (fail)
   clear k4a k4b k4c k7a k7b k7c k8a k8b k8c kpz_0 kpz_1 kpz_2;have fp8:=p8.form;have ltp4:=p4.lt;have ltp7:=p7.lt;have ltfp8:=fp8.lt;have ltpz:=pz.lt;have szw9:=Ext.size E0
   refine region_gs [isV (.agg #[.bool b,.slice a n cc,.slice dd mm oo]),isV (.pointer (some ⟨w.heap.size+1,2,none⟩)),isV (.int .i64 (m:Int)),
     .one fun v W=>Rw W v (mkRat 1 m),
     .one fun v W=>Rw W v (sqS K ep lg s st m*mkRat 1 m),
     .two 4 (fun r _ W=>At3 (w.heap.size+1+1) 45 r W)]
    (fun W=>Ext w W∧Iw 0 w.heap.size W ag ng cg (lg)∧Bx3 W w.heap.size 23 (.int .i64 lr) (.int .i64 ep) (.int .i64 d)∧Bx3 W (w.heap.size+1) 48 (.int .i64 (s:Int)) (.int .i64 (st:Int)) (.int .i64 (m:Int))∧Form W (w.heap.size+1+1) 45 3∧Bx3 W g6_2 45 (.bool b) (.slice a n cc) (.slice dd mm oo)∧Rw W (.agg #[.bool b,.slice a n cc,.slice dd mm oo]) (sqS K ep lg s st m)∧wr.heap.size≤W.heap.size) ⟨Good.is _,Good.is _,Good.is _,Good.rat _,Good.rat _,cert_at3,trivial⟩
    ⟨E0,hg,p4,p7,fp8,pz,hz,Nat.le_refl _⟩ (A:=?A9) ?hA9 ?howe9 ?hfin9
   case hA9=>
    intro vs
    simp only[putAll,Act.put,sA,sZ,sS,Nat.zero_add,Nat.reduceAdd]
    exact rfl
   case howe9=>
    clear E0 hg p4 p7 fp8 pz hz
    intro hf
    refine⟨oE 0 [] hf rfl ?_,oP0 1 [] hf rfl,oE 2 [1] hf rfl ?_,oE 3 [2] hf rfl ?_,oE 4 [0,3] hf rfl ?_,oW 5 [4] hf rfl ?_,trivial⟩
    all_goals intro vs W hS hp hx KO hKO
    all_goals simp only[Act.put,sA,sZ,sS]at hKO
    ·have fc0:=hS.2.2.2.2.2.1.cell0;have fc1:=hS.2.2.2.2.2.1.cell1;have fc2:=hS.2.2.2.2.2.1.cell2;go_simp;exact hKO _ W (.refl W) rfl
    ·have e1:=isOf hp.1;simp only[e1]at hKO;have fc2:=hS.2.2.2.1.cell2;go_simp;exact hKO _ W (.refl W) rfl
    ·have e2:=isOf hp.1;simp only[e2]at hKO;go_simp
     refine(Tryz.refRFrac 1 (m:Int) _ (by omega) (by omega) (by have:=HM.out;omega) (by have:=HM.out;omega)).mono ?_
     rintro e W1 ⟨v,rfl,hv,hE⟩
     exact hKO _ W1 hE hv
    ·have e0:=isOf hp.1;have q3:=hp.2.1;simp only[e0]at hKO;go_simp
     refine(Tryz.refRMul (hS.2.2.2.2.2.2.1) q3 SS.out SF.out (by omega)).mono ?_
     rintro e W1 ⟨v,rfl,hv,hE⟩
     exact hKO _ W1 hE hv
    ·have q4:=hp.1
     have hf:=hS.2.2.2.2.1
     obtain⟨x0_0,x0_1,x0_2,hx,hno⟩:=hf.bx3
     have qr:=q4
     obtain⟨b3,a3,n3,c3,d3,m3,o3,er,-,-,-⟩:=qr
     replace er:vs 4=_:=er
     have r0:=hx.froz0
     have t0:=hx.cell0
     have r1:=hx.froz1
     have t1:=hx.cell1
     have r2:=hx.froz2
     have t2:=hx.cell2
     have hw:=Wr.set3 hx hno b3 a3 n3 c3 d3 m3 o3
     have hq:=hx.set (.bool b3) (.slice a3 n3 c3) (.slice d3 m3 o3)
     have hg:(w.heap.size+1+1)≤(w.heap.size+1+1):=Nat.le_refl _
     simp only[er]at hKO;go_simp
     exact hKO _ _ hw ⟨(Ext.wr hS.1 hw (by omega)),(hS.2.1.wr hw (by omega)),(hS.2.2.1.wr hw (by omega)),(hS.2.2.2.1.wr hw (by omega)),(hS.2.2.2.2.1.wr hw),(hS.2.2.2.2.2.1.wr hw (by omega)),(hS.2.2.2.2.2.2.1.wr hw),(Nat.le_trans hS.2.2.2.2.2.2.2 hw.apart.size)⟩ ⟨b3,a3,n3,c3,d3,m3,o3,er,hq⟩
   intro vs W9 hS hp
   clear szw9 E0 hg p4 p7 fp8 pz hz
   obtain⟨E0,hg,p4,p7,fp8,pz,hz,sz9⟩:=hS
   obtain⟨h9_0,h9_1,h9_2,h9_3,h9_4,h9_5,-⟩:=hp
   obtain⟨b9_5,a9_5,n9_5,c9_5,d9_5,m9_5,o9_5,er9_5,p9_5⟩:=h9_5
   replace er9_5:vs 4=_:=er9_5;replace h9_4:=(show Rw W9 (vs 4) (sqS K ep lg s st m*mkRat 1 m) from h9_4)
   rw[er9_5]at h9_4
   simp only[er9_5,isOf h9_0,isOf h9_1,isOf h9_2]
   replace h9_3:Rw W9 (vs 3) (mkRat 1 m):=h9_3
   generalize vs 3=u9_3 at h9_3 ⊢
   clear er9_5 h9_0 h9_1 h9_2
   obtain⟨k4a,k4b,k4c⟩:=p4.c3
   obtain⟨k7a,k7b,k7c⟩:=p7.c3
   obtain⟨kpz_0,kpz_1,kpz_2⟩:=pz.c3
   obtain⟨k9_5a,k9_5b,k9_5c⟩:=p9_5.c3
   go_wp2
   exact bodyPost_ret (v:=.agg #[.bool b9_5,.slice a9_5 n9_5 c9_5,.slice d9_5 m9_5 o9_5]) (by simp[results,Tryz.results12,go_sem,k9_5a,k9_5b,k9_5c]) rfl ⟨_,rfl,h9_4,E0⟩
set_option maxRecDepth 100000 in
set_option maxHeartbeats 8000000 in
theorem Tryz.mixed19 (sh old:Int) (K:Nat) (hK:K≤40) (h1:I64 sh) (h2:I64 old) {va:Value} {Q:Rat} {w:World} (ha:Rw w va Q) (sq:SmR 10 Q):
  Calls Tryz.prog 11 #[.int .i64 sh,.int .i64 (K:Int),.int .i64 old,va] w fun e w'=>∃ v',e=.returned v'∧Rw w' v' (mixR K sh old Q)∧Ext w w':=by
 have HK:=Lib.hid hK
 have HB:=Lib.hid (And.intro h1 h2)
 have S1:Hid (SmR 4 (numR K sh)):=Lib.hid (SmR.num h1.1 h1.2 hK)
 have S2:Hid (SmR 4 (numR K old)):=Lib.hid (SmR.num h2.1 h2.2 hK)
 have SA:=Lib.hid sq
 have SO:Hid (SmR 4 ((1:Int):Rat)):=Lib.hid ((SmR.ofInt (n:=1) (by omega) (by omega)).mono (by omega))
 have SD:Hid (SmR 9 (((1:Int):Rat) - numR K sh)):=Lib.hid (SO.out.sub S1.out)
 have SP:Hid (SmR 20 ((((1:Int):Rat) - numR K sh)*numR K old)):=Lib.hid ((SD.out.mul (S2.out.mono (by omega))).mono (by omega))
 have SQ:Hid (SmR 20 (numR K sh*Q)):=Lib.hid (SmR.mul (S1.out.mono (by omega)) SA.out)
 clear hK h1 h2 sq
 obtain⟨b1,a1,n1,c1,d1,m1,o1,rfl,q1⟩:∃ b a n c d m o,va=.agg #[.bool b,.slice a n c,.slice d m o]∧True:=let ⟨b,a,n,c,d,m,o,e,_⟩:=ha;⟨b,a,n,c,d,m,o,e,trivial⟩
 clear q1
 obtain⟨W0,hW0,E0,p7,p8⟩:=boxed2 w 45 #[.bool b1,.slice a1 n1 c1,.slice d1 m1 o1] 45 #[.bool false,.slice none 0 0,.slice none 0 0]
 replace p7:=p7.b3
 replace p8:=p8.b3
 replace ha:Rw W0 (.agg #[.bool b1,.slice a1 n1 c1,.slice d1 m1 o1]) Q:=ha.ext E0
 go_enter Tryz.func11,Tryz.ntmps11
 obtain⟨k7a,k7b,k7c⟩:=p7.c3
 obtain⟨k8a,k8b,k8c⟩:=p8.c3
 go_upto_region 1 with (fail)
 rw[← hW0]
 clear hW0;clear k7a k7b k7c k8a k8b k8c;have ltp7:=p7.lt;have ltp8:=p8.lt;have szw10:=Ext.size E0
 refine region_gs [isV (.int .i64 sh),isV (.int .i64 (K:Int)),
   .one fun v W=>Rw W v (numR K sh),
   .one fun v W=>∃ g,v=.pointer (some ⟨g,0,none⟩)∧W0.heap.size≤g∧Form W g 45 3,
   .three 3 2 (fun p r _ W=>Put3 W0.heap.size 45 p r W)]
  (fun W=>Ext w W∧Rw W (.agg #[.bool b1,.slice a1 n1 c1,.slice d1 m1 o1]) Q∧Bx3 W w.heap.size 45 (.bool b1) (.slice a1 n1 c1) (.slice d1 m1 o1)∧Bx3 W (w.heap.size+1) 45 (.bool false) (.slice none 0 0) (.slice none 0 0)∧W0.heap.size≤W.heap.size) ⟨Good.is _,Good.is _,Good.rat _,Good.box _ _ _,cert_put3,trivial⟩
  ⟨E0,ha,p7,p8,Nat.le_refl _⟩ (A:=?A10) ?hA10 ?howe10 ?hfin10
 case hA10=>
  intro vs
  simp only[putAll,Act.put,sA,sZ,sS,Nat.zero_add,Nat.reduceAdd]
  exact rfl
 case howe10=>
  clear E0 ha p7 p8
  intro hf
  refine⟨oP0 0 [] hf rfl,oP0 1 [] hf rfl,oE 2 [0,1] hf rfl ?_,oE 3 [] hf rfl ?_,oW 4 [3,2] hf rfl ?_,trivial⟩
  all_goals intro vs W hS hp hx KO hKO
  all_goals simp only[Act.put,sA,sZ,sS]at hKO
  ·have e0:=isOf hp.1;have e1:=isOf hp.2.1;simp only[e0,e1]at hKO;go_simp
   refine(Tryz.num19 sh K HK.out _ HB.out.1.1 HB.out.1.2).mono ?_
   rintro e W1 ⟨v,rfl,hv,hE⟩
   exact hKO _ W1 hE hv
  ·have hn:=Bx3.new W 45 (.bool false) (.slice none 0 0) (.slice none 0 0)
   have hE:=Ext.alloc1 W (.cells #[.bool false,.slice none 0 0,.slice none 0 0] 45)
   have hsz:=hS.2.2.2.2
   go_simp
   exact hKO _ _ hE ⟨_,rfl,hsz,hn.form⟩
  ·have q3:=hp.1;have q2:=hp.2.1
   obtain⟨g,ev,hg,hf⟩:=q3
   replace ev:vs 3=_:=ev
   obtain⟨x0_0,x0_1,x0_2,hx,hno⟩:=hf.bx3
   have qr:=q2
   obtain⟨b3,a3,n3,c3,d3,m3,o3,er,-,-,-⟩:=qr
   replace er:vs 2=_:=er
   have r0:=hx.froz0
   have t0:=hx.cell0
   have r1:=hx.froz1
   have t1:=hx.cell1
   have r2:=hx.froz2
   have t2:=hx.cell2
   have hw:=Wr.set3 hx hno b3 a3 n3 c3 d3 m3 o3
   have hq:=hx.set (.bool b3) (.slice a3 n3 c3) (.slice d3 m3 o3)
   simp only[ev,er]at hKO;go_simp
   exact hKO _ _ hw ⟨(Ext.wr hS.1 hw (by omega)),(hS.2.1.wr hw),(hS.2.2.1.wr hw (by omega)),(hS.2.2.2.1.wr hw (by omega)),(Nat.le_trans hS.2.2.2.2 hw.apart.size)⟩ ⟨g,b3,a3,n3,c3,d3,m3,o3,ev,er,hg,hq⟩
 intro vs W10 hS hp
 clear szw10 E0 ha p7 p8
 obtain⟨E0,ha,p7,p8,sz10⟩:=hS
 obtain⟨h10_0,h10_1,h10_2,h10_3,h10_4,-⟩:=hp
 obtain⟨g10_4,b10_4,a10_4,n10_4,c10_4,d10_4,m10_4,o10_4,ev10_4,er10_4,hg10_4,p10_4⟩:=h10_4
 replace ev10_4:vs 3=_:=ev10_4;replace er10_4:vs 2=_:=er10_4;replace h10_2:=(show Rw W10 (vs 2) (numR K sh) from h10_2)
 rw[er10_4]at h10_2
 simp only[ev10_4,er10_4,isOf h10_0,isOf h10_1]
 clear ev10_4 er10_4 h10_0 h10_1 h10_3
 obtain⟨k7a,k7b,k7c⟩:=p7.c3
 obtain⟨k8a,k8b,k8c⟩:=p8.c3
 obtain⟨k10_4a,k10_4b,k10_4c⟩:=p10_4.c3
 go_upto_region 2 with (fail)
 clear k7a k7b k7c k8a k8b k8c k10_4a k10_4b k10_4c;have fp8:=p8.form;have ltp10_4:=p10_4.lt;have szw11:=Ext.size E0
 refine region_gs [.one fun v W=>Rw W v (((1:Int):Rat)),
   isV (.agg #[.bool b10_4,.slice a10_4 n10_4 c10_4,.slice d10_4 m10_4 o10_4]),
   .one fun v W=>Rw W v (((1:Int):Rat) - numR K sh),
   isV (.int .i64 old),isV (.int .i64 (K:Int)),
   .one fun v W=>Rw W v (numR K old),
   .one fun v W=>Rw W v ((((1:Int):Rat) - numR K sh)*numR K old),
   isV (.agg #[.bool b10_4,.slice a10_4 n10_4 c10_4,.slice d10_4 m10_4 o10_4]),isV (.agg #[.bool b1,.slice a1 n1 c1,.slice d1 m1 o1]),
   .one fun v W=>Rw W v (numR K sh*Q),
   .one fun v W=>Rw W v ((((1:Int):Rat) - numR K sh)*numR K old+numR K sh*Q),
   .two 10 (fun r _ W=>At3 (w.heap.size+1) 45 r W)]
  (fun W=>Ext w W∧Rw W (.agg #[.bool b1,.slice a1 n1 c1,.slice d1 m1 o1]) Q∧Bx3 W w.heap.size 45 (.bool b1) (.slice a1 n1 c1) (.slice d1 m1 o1)∧Form W (w.heap.size+1) 45 3∧Rw W (.agg #[.bool b10_4,.slice a10_4 n10_4 c10_4,.slice d10_4 m10_4 o10_4]) (numR K sh)∧Bx3 W g10_4 45 (.bool b10_4) (.slice a10_4 n10_4 c10_4) (.slice d10_4 m10_4 o10_4)∧W10.heap.size≤W.heap.size) ⟨Good.rat _,Good.is _,Good.rat _,Good.is _,Good.is _,Good.rat _,Good.rat _,Good.is _,Good.is _,Good.rat _,Good.rat _,cert_at3,trivial⟩
  ⟨E0,ha,p7,fp8,h10_2,p10_4,Nat.le_refl _⟩ (A:=?A11) ?hA11 ?howe11 ?hfin11
 case hA11=>
  intro vs
  simp only[putAll,Act.put,sA,sZ,sS,Nat.zero_add,Nat.reduceAdd]
  exact rfl
 case howe11=>
  clear E0 ha p7 fp8 h10_2 p10_4
  intro hf
  refine⟨oE 0 [] hf rfl ?_,oE 1 [] hf rfl ?_,oE 2 [0,1] hf rfl ?_,oP0 3 [] hf rfl,oP0 4 [] hf rfl,oE 5 [3,4] hf rfl ?_,oE 6 [2,5] hf rfl ?_,oE 7 [] hf rfl ?_,oE 8 [] hf rfl ?_,oE 9 [7,8] hf rfl ?_,oE 10 [6,9] hf rfl ?_,oW 11 [10] hf rfl ?_,trivial⟩
  all_goals intro vs W hS hp hx KO hKO
  all_goals simp only[Act.put,sA,sZ,sS]at hKO
  ·go_simp
   refine(Tryz.refROf 1 _ (by omega) (by omega)).mono ?_
   rintro e W1 ⟨v,rfl,hv,hE⟩
   exact hKO _ W1 hE hv
  ·have fc0:=hS.2.2.2.2.2.1.cell0;have fc1:=hS.2.2.2.2.2.1.cell1;have fc2:=hS.2.2.2.2.2.1.cell2;go_simp;exact hKO _ W (.refl W) rfl
  ·have q0:=hp.1;have e1:=isOf hp.2.1;simp only[e1]at hKO;go_simp
   refine(Tryz.refRSub q0 (hS.2.2.2.2.1) SO.out S1.out (by omega)).mono ?_
   rintro e W1 ⟨v,rfl,hv,hE⟩
   exact hKO _ W1 hE hv
  ·have e3:=isOf hp.1;have e4:=isOf hp.2.1;simp only[e3,e4]at hKO;go_simp
   refine(Tryz.num19 old K HK.out _ HB.out.2.1 HB.out.2.2).mono ?_
   rintro e W1 ⟨v,rfl,hv,hE⟩
   exact hKO _ W1 hE hv
  ·have q2:=hp.1;have q5:=hp.2.1;go_simp
   refine(Tryz.refRMul q2 q5 SD.out (S2.out.mono (by omega)) (by omega)).mono ?_
   rintro e W1 ⟨v,rfl,hv,hE⟩
   exact hKO _ W1 hE hv
  ·have fc0:=hS.2.2.2.2.2.1.cell0;have fc1:=hS.2.2.2.2.2.1.cell1;have fc2:=hS.2.2.2.2.2.1.cell2;go_simp;exact hKO _ W (.refl W) rfl
  ·have fc0:=hS.2.2.1.cell0;have fc1:=hS.2.2.1.cell1;have fc2:=hS.2.2.1.cell2;go_simp;exact hKO _ W (.refl W) rfl
  ·have e7:=isOf hp.1;have e8:=isOf hp.2.1;simp only[e7,e8]at hKO;go_simp
   refine(Tryz.refRMul (hS.2.2.2.2.1) (hS.2.1) (S1.out.mono (by omega)) SA.out (by omega)).mono ?_
   rintro e W1 ⟨v,rfl,hv,hE⟩
   exact hKO _ W1 hE hv
  ·have q6:=hp.1;have q9:=hp.2.1;go_simp
   refine(Tryz.refRAdd q6 q9 SP.out SQ.out (by omega)).mono ?_
   rintro e W1 ⟨v,rfl,hv,hE⟩
   exact hKO _ W1 hE hv
  ·have q10:=hp.1
   have hf:=hS.2.2.2.1
   obtain⟨x0_0,x0_1,x0_2,hx,hno⟩:=hf.bx3
   have qr:=q10
   obtain⟨b3,a3,n3,c3,d3,m3,o3,er,-,-,-⟩:=qr
   replace er:vs 10=_:=er
   have r0:=hx.froz0
   have t0:=hx.cell0
   have r1:=hx.froz1
   have t1:=hx.cell1
   have r2:=hx.froz2
   have t2:=hx.cell2
   have hw:=Wr.set3 hx hno b3 a3 n3 c3 d3 m3 o3
   have hq:=hx.set (.bool b3) (.slice a3 n3 c3) (.slice d3 m3 o3)
   have hg:(w.heap.size+1)≤(w.heap.size+1):=Nat.le_refl _
   simp only[er]at hKO;go_simp
   exact hKO _ _ hw ⟨(Ext.wr hS.1 hw (by omega)),(hS.2.1.wr hw),(hS.2.2.1.wr hw (by omega)),(hS.2.2.2.1.wr hw),(hS.2.2.2.2.1.wr hw),(hS.2.2.2.2.2.1.wr hw (by omega)),(Nat.le_trans hS.2.2.2.2.2.2 hw.apart.size)⟩ ⟨b3,a3,n3,c3,d3,m3,o3,er,hq⟩
 intro vs W11 hS hp
 clear szw11 E0 ha p7 fp8 h10_2 p10_4
 obtain⟨E0,ha,p7,fp8,h10_2,p10_4,sz11⟩:=hS
 obtain⟨h11_0,h11_1,h11_2,h11_3,h11_4,h11_5,h11_6,h11_7,h11_8,h11_9,h11_10,h11_11,-⟩:=hp
 obtain⟨b11_11,a11_11,n11_11,c11_11,d11_11,m11_11,o11_11,er11_11,p11_11⟩:=h11_11
 replace er11_11:vs 10=_:=er11_11;replace h11_10:=(show Rw W11 (vs 10) ((((1:Int):Rat) - numR K sh)*numR K old+numR K sh*Q) from h11_10)
 rw[er11_11]at h11_10
 simp only[er11_11,isOf h11_1,isOf h11_3,isOf h11_4,isOf h11_7,isOf h11_8]
 replace h11_0:Rw W11 (vs 0) (((1:Int):Rat)):=h11_0
 generalize vs 0=u11_0 at h11_0 ⊢
 replace h11_2:Rw W11 (vs 2) (((1:Int):Rat) - numR K sh):=h11_2
 generalize vs 2=u11_2 at h11_2 ⊢
 replace h11_5:Rw W11 (vs 5) (numR K old):=h11_5
 generalize vs 5=u11_5 at h11_5 ⊢
 replace h11_6:Rw W11 (vs 6) ((((1:Int):Rat) - numR K sh)*numR K old):=h11_6
 generalize vs 6=u11_6 at h11_6 ⊢
 replace h11_9:Rw W11 (vs 9) (numR K sh*Q):=h11_9
 generalize vs 9=u11_9 at h11_9 ⊢
 clear er11_11 h11_1 h11_3 h11_4 h11_7 h11_8
 obtain⟨k7a,k7b,k7c⟩:=p7.c3
 obtain⟨k10_4a,k10_4b,k10_4c⟩:=p10_4.c3
 obtain⟨k11_11a,k11_11b,k11_11c⟩:=p11_11.c3
 go_wp2
 exact bodyPost_ret (v:=.agg #[.bool b11_11,.slice a11_11 n11_11 c11_11,.slice d11_11 m11_11 o11_11]) (by simp[results,Tryz.results11,go_sem,k11_11a,k11_11b,k11_11c]) rfl ⟨_,rfl,h11_10,E0⟩
set_option maxRecDepth 100000 in
set_option maxHeartbeats 8000000 in
theorem Tryz.refFac19 (n cl:Nat) (h1:1≤cl) (hc:cl < 9223372036854775808) (hn:n≤40) (w:World):
  Calls Tryz.prog 9 #[.int .i64 (n:Int),.int .i64 (cl:Int)] w fun e w'=>e=.returned (.bool (facB n cl))∧Ext w w':=by
 have HN:=Lib.hid (And.intro h1 (And.intro hc hn))
 have E0:=Ext.refl w
 unfold facB
 by_cases h2:2≤cl
 ·obtain⟨rr,hrr⟩:∃ q,q=n / cl:=⟨_,rfl⟩
  have hr0:rr≤n:=by rw[hrr];exact Nat.div_le_self _ _
  have d1:=divT hrr
  have d2:(n:Int) / (cl:Int)=(rr:Int):=by rw[hrr];rfl
  have d3:IntKind.i64.wrap ((n:Int).tdiv (cl:Int))=(rr:Int):=by rw[d1,IntKind.wrap_i64];omega
  have d4:IntKind.i64.wrap (rr:Int)=(rr:Int):=by rw[IntKind.wrap_i64];omega
  have hv0:((cl:Int)==0)=false:=beq_eq_false_iff_ne.2 (by omega)
  have hv0a:¬ ((cl:Int)=0):=by omega
  have hv0b:¬ (cl=0):=by omega
  rw[← hrr,decide_eq_true h2,Bool.true_and]
  clear hrr
  have k2:decide ((cl:Int)≥2)=true:=decide_eq_true (by omega)
  have k2b:(2:Int)≤(cl:Int):=by omega
  by_cases h3:2≤rr
  ·rw[decide_eq_true h3]
   have k3:decide ((rr:Int)≥2)=true:=decide_eq_true (by omega)
   have k3b:(2:Int)≤(rr:Int):=by omega
   go_enter Tryz.func9,Tryz.ntmps9
   go_wp2;go_ret
   exact⟨rfl,E0⟩
  ·rw[decide_eq_false h3]
   have k3:decide ((rr:Int)≥2)=false:=decide_eq_false (by omega)
   have k3b:¬ (2:Int)≤(rr:Int):=by omega
   go_enter Tryz.func9,Tryz.ntmps9
   go_wp2;go_ret
   exact⟨rfl,E0⟩
 ·have k2:decide ((cl:Int)≥2)=false:=decide_eq_false (by omega)
  have k2b:¬ (2:Int)≤(cl:Int):=by omega
  rw[decide_eq_false h2,Bool.false_and]
  go_enter Tryz.func9,Tryz.ntmps9
  go_wp2;go_ret
  exact⟨rfl,E0⟩
end Go.Rt
namespace Go.Rt
open Go Go.RowKit Go.Proofs
theorem Form.put3 {W:World} {g:Nat} {t:TypeId} (h:Form W g t 3) (v0 v1 v2:Value) (hn:NoU #[v0,v1,v2]):
  ∃ x0 x1 x2,W.cell? ⟨g,0,none⟩=some x0∧W.cell? ⟨g,1,none⟩=some x1∧W.cell? ⟨g,2,none⟩=some x2∧(∀ i,W.frozen? ⟨g,i,none⟩=false) ∧
   ∃ W',W'=((W.setCell ⟨g,0,none⟩ v0).setCell ⟨g,1,none⟩ v1).setCell ⟨g,2,none⟩ v2∧Wr g W W'∧BxA W' g t #[v0,v1,v2]:=by
 obtain⟨cs,h1,h2,h3⟩:=h
 obtain⟨l⟩:=cs
 match l,h3 with
 | [x0,x1,x2],_=>
  have hb:BxA W g t #[x0,x1,x2]:=h1
  have hq:BxA (((W.setCell ⟨g,0,none⟩ v0).setCell ⟨g,1,none⟩ v1).setCell ⟨g,2,none⟩ v2) g t #[v0,v1,v2]:=
   BxA.putN (BxA.putN (BxA.putN hb 0 v0) 1 v1) 2 v2
  refine⟨x0,x1,x2,BxA.cell hb 0 rfl,BxA.cell hb 1 rfl,BxA.cell hb 2 rfl,BxA.frozN hb,_,rfl,⟨?_,⟨_,t,hb,h2⟩,fun cs t' hc=>?_⟩,hq⟩
  ·exact((Apart.setCell (p:=⟨g,0,none⟩) _ (by simp) _).trans (Apart.setCell (p:=⟨g,1,none⟩) _ (by simp) _)).trans (Apart.setCell (p:=⟨g,2,none⟩) _ (by simp) _)
  ·rw[show W.heap[g]? = _ from hb]at hc
   cases hc
   exact⟨_,hq,hn,rfl⟩
theorem noU_three (a b c:Int):NoU #[.int .i64 a,.int .i64 b,.int .i64 c]:=noU_ints [a,b,c]
def MomOk (K cl n:Nat) (ep sh:Int) (lm lv lg xw xm xv:List Int):Prop:=
 lg.length=n∧1≤cl∧n % cl=0∧xm.length=lm.length∧xv.length=lv.length∧xw.length=n∧(if facB n cl=true then lm.length=n / cl∧lv.length=cl else lm.length=0∧lv.length=n) ∧
  (facB n cl=true→(∀ r,r < lm.length→0≤atL xm r∧FarOk K (atL xm r) (mixR K sh (atL lm r) (sqM K ep lg (r*cl) 1 cl)) 4)∧∀ k,k < cl→0≤atL xv k∧FarOk K (atL xv k) (mixR K sh (atL lv k) (sqM K ep lg k cl (n / cl))) 4) ∧
  (facB n cl=false→∀ k,k < n→0≤atL xv k∧FarOk K (atL xv k) (mixR K sh (atL lv k) (sqM K ep lg k 1 1)) 3)
theorem momOk {A:AdaP} {f t c:Int} {lw lm lv lg xw xm xv:List Int} {K cl n:Nat} (hK:f=(K:Int)) (hc:c=(cl:Int)) (hn:lw.length=n) (h:adaE A f t c lw lm lv lg=0) (h1:stepW A f t c lw lm lv lg=xw) (h2:stepM A f t c lw lm lv lg=xm) (h3:stepV A f t c lw lm lv lg=xv):
  MomOk K cl n A.ep (shareZ t f) lm lv lg xw xm xv:=by
 subst h1 h2 h3
 exact ada_moments hK hc hn h
theorem Tryz.squares19a {ag:Option Addr} {ng cg:Nat} {lg:List Int} (lr ep d:Int) (K s m:Nat) (hK:K≤40) (he:I64 ep) (h0:0 < m) (hm:m≤40) (hs:s≤1000) (hx:s+m≤ng) {w:World} (hg:Iw 0 w.heap.size w ag ng cg lg):
  Calls Tryz.prog 12 #[.agg #[.int .i64 lr,.int .i64 ep,.int .i64 d],.int .i64 (K:Int),.slice ag ng cg,.agg #[.int .i64 (s:Int),.int .i64 1,.int .i64 (m:Int)]] w fun e w'=>∃ v',e=.returned v'∧Rw w' v' (sqM K ep lg s 1 m)∧Ext w w':=
 Tryz.squares19 lr ep d K s 1 m hK he h0 hm (by omega) hs (fun i hi=>by omega) hg
theorem fac_one {n cl a b:Nat} (h:if facB n cl=true then a=n / cl∧b=cl else a=0∧b=n) (hd:n % cl=0) (hn:n≤36):
  (a≠0→facB n cl=true)∧(facB n cl=true→2≤cl∧cl≤36∧a*cl=n∧b=cl∧a=n / cl∧2≤a)∧(facB n cl=false→b=n):=by
 cases hb:facB n cl
 ·rw[hb]at h
  exact⟨fun k=>absurd h.1 k,fun k=>(by cases k),fun _=>h.2⟩
 ·rw[hb]at h
  refine⟨fun _=>rfl,fun _=>?_,fun k=>(by cases k)⟩
  obtain⟨h1,h2⟩:=(h:a=n / cl∧b=cl)
  unfold facB at hb
  rw[Bool.and_eq_true,decide_eq_true_eq,decide_eq_true_eq]at hb
  have h3:=Nat.div_add_mod n cl
  rw[hd,Nat.add_zero,Nat.mul_comm,← h1]at h3
  have h4:2*cl≤a*cl:=Nat.mul_le_mul_right _ (by omega)
  exact⟨hb.1,by omega,h3,h2,h1,by omega⟩
set_option maxRecDepth 100000 in
set_option maxHeartbeats 16000000 in
theorem Tryz.lawAdaMoments (lr ep d f tt c:Int) {n0 n1 n2 n3:Nat} {a0 a1 a2 a3:Option Addr} {c0 c1 c2 c3:Nat} {lw lm lv lg:List Int} (w:World) (hs:n0+n1+n2+n3≤9223372036854775807) (q1:I64 lr) (q2:I64 ep) (q3:I64 d) (q4:I64 c) (hi0:Iw 0 w.heap.size w a0 n0 c0 lw) (hi1:Iw 0 w.heap.size w a1 n1 c1 lm) (hi2:Iw 0 w.heap.size w a2 n2 c2 lv) (hi3:Iw 0 w.heap.size w a3 n3 c3 lg):
  Calls Tryz.prog 3 #[.agg #[.int .i64 lr,.int .i64 ep,.int .i64 d,.int .i64 f,.int .i64 tt,.int .i64 c,.slice a0 n0 c0,.slice a1 n1 c1,.slice a2 n2 c2,.slice a3 n3 c3]] w fun e w'=>e=.returned (.bool true)∧Ext w w':=by
 have HQ:=Lib.hid (And.intro q1 (And.intro q2 (And.intro q3 q4)))
 have HSM:=Lib.hid hs
 have HL:=Lib.hid (And.intro hi0.len (And.intro hi1.len (And.intro hi2.len hi3.len)))
 clear q1 q2 q3 q4 hs
 obtain⟨E1,hE1⟩:∃ E,adaE ⟨lr,ep,d⟩ f tt c lw lm lv lg=E:=⟨_,rfl⟩
 obtain⟨xw1,hxw1⟩:∃ x,stepW ⟨lr,ep,d⟩ f tt c lw lm lv lg=x:=⟨_,rfl⟩
 obtain⟨xm1,hxm1⟩:∃ x,stepM ⟨lr,ep,d⟩ f tt c lw lm lv lg=x:=⟨_,rfl⟩
 obtain⟨xv1,hxv1⟩:∃ x,stepV ⟨lr,ep,d⟩ f tt c lw lm lv lg=x:=⟨_,rfl⟩
 have HST1:=Lib.hid (And.intro hE1 (And.intro hxw1 (And.intro hxm1 hxv1)))
 have HNO:Hid (E1≠0→xw1=[]∧xm1=[]∧xv1=[]):=Lib.hid (fun h=>by rw[← hE1]at h;rw[← hxw1,← hxm1,← hxv1];unfold stepW stepM stepV;rw[if_neg h,if_neg h,if_neg h];exact⟨rfl,rfl,rfl⟩)
 have HOK:Hid (E1=0→∃ K T cl:Nat,f=(K:Int)∧tt=(T:Int)∧c=(cl:Int)∧K≤40∧1≤T∧T≤1000000):=Lib.hid (fun h=>by
  have k:=adaE_zero.1 (hE1.trans h)
  have r:=rightAda_iff.1 k.right
  have s:=shareB_iff.1 k.share
  have q:=k.col
  exact⟨f.toNat,tt.toNat,c.toNat,by omega,by omega,by omega,by omega,by omega,by omega⟩)
 have HMO:Hid (∀ K cl:Nat,E1=0→f=(K:Int)→c=(cl:Int)→MomOk K cl n0 ep (shareZ tt f) lm lv lg xw1 xm1 xv1):=Lib.hid (fun K cl h hK hc=>momOk (A:=⟨lr,ep,d⟩) hK hc HL.out.1 (hE1.trans h) hxw1 hxm1 hxv1)
 clear hE1 hxw1 hxm1 hxv1
 obtain⟨W0,hW0,E0,p1⟩:=boxed1 w 29 #[.int .i64 lr,.int .i64 ep,.int .i64 d,.int .i64 f,.int .i64 tt,.int .i64 c,.slice a0 n0 c0,.slice a1 n1 c1,.slice a2 n2 c2,.slice a3 n3 c3]
 replace hi0:Iw 0 w.heap.size W0 a0 n0 c0 (lw):=hi0.ext E0
 replace hi1:Iw 0 w.heap.size W0 a1 n1 c1 (lm):=hi1.ext E0
 replace hi2:Iw 0 w.heap.size W0 a2 n2 c2 (lv):=hi2.ext E0
 replace hi3:Iw 0 w.heap.size W0 a3 n3 c3 (lg):=hi3.ext E0
 go_enter Tryz.func3,Tryz.ntmps3
 have k1a:=p1.cell 0 (v:=.int .i64 lr) rfl
 have k1b:=p1.cell 1 (v:=.int .i64 ep) rfl
 have k1c:=p1.cell 2 (v:=.int .i64 d) rfl
 have k1d:=p1.cell 3 (v:=.int .i64 f) rfl
 have k1e:=p1.cell 4 (v:=.int .i64 tt) rfl
 have k1f:=p1.cell 5 (v:=.int .i64 c) rfl
 have k1g:=p1.cell 6 (v:=.slice a0 n0 c0) rfl
 have k1h:=p1.cell 7 (v:=.slice a1 n1 c1) rfl
 have k1i:=p1.cell 8 (v:=.slice a2 n2 c2) rfl
 have k1j:=p1.cell 9 (v:=.slice a3 n3 c3) rfl
 go_upto_region 1 with (fail)
 rw[← hW0]
 clear hW0;clear k1a k1b k1c k1d k1e k1f k1g k1h k1i k1j
 have HB1_p1:=Lib.hid p1.lt
 have sHB1_p1:=HB1_p1.out
 have ltp1:=p1.lt;have szw12:=Ext.size E0
 refine region_go2 [isV (.pointer (some ⟨w.heap.size,0,none⟩)),isV (.agg #[.int .i64 lr,.int .i64 ep,.int .i64 d]),isV (.pointer (some ⟨w.heap.size,3,none⟩)),isV (.int .i64 f),isV (.pointer (some ⟨w.heap.size,6,none⟩)),isV (.agg #[.slice a0 n0 c0,.slice a1 n1 c1,.slice a2 n2 c2,.slice a3 n3 c3]),
   .one fun v W=>∃ g,v=.pointer (some ⟨g,0,none⟩)∧W0.heap.size≤g∧Form W g 23 3,
   .one fun v W=>∃ g,v=.pointer (some ⟨g,0,none⟩)∧W0.heap.size≤g∧Form W g 27 4,
   .two 6 (fun p _ W=>NewA W0.heap.size 23 #[.int .i64 lr,.int .i64 ep,.int .i64 d] p W),
   isV (.int .i64 f),
   .two 7 (fun p _ W=>NewA W0.heap.size 27 #[.slice a0 n0 c0,.slice a1 n1 c1,.slice a2 n2 c2,.slice a3 n3 c3] p W)]
  (fun W=>Ext w W∧Iw 0 w.heap.size W a0 n0 c0 (lw)∧Iw 0 w.heap.size W a1 n1 c1 (lm)∧Iw 0 w.heap.size W a2 n2 c2 (lv)∧Iw 0 w.heap.size W a3 n3 c3 (lg)∧BxA W w.heap.size 29 #[.int .i64 lr,.int .i64 ep,.int .i64 d,.int .i64 f,.int .i64 tt,.int .i64 c,.slice a0 n0 c0,.slice a1 n1 c1,.slice a2 n2 c2,.slice a3 n3 c3]∧W0.heap.size≤W.heap.size) W0.heap.size [6,7] [Tag.any,Tag.any,Tag.any,Tag.any,Tag.any,Tag.any,Tag.any,Tag.any,Tag.new 6,Tag.any,Tag.new 7] ⟨Good.is _,Good.is _,Good.is _,Good.is _,Good.is _,Good.is _,Good.box _ _ _,Good.box _ _ _,tag_newA,Good.is _,tag_newA,trivial⟩ (fun g0 hg=>by simp at hg)
  (fun W W1 hS hE=>⟨(Ext.trans hS.1 hE),(hS.2.1.ext hE),(hS.2.2.1.ext hE),(hS.2.2.2.1.ext hE),(hS.2.2.2.2.1.ext hE),(hS.2.2.2.2.2.1.ext hE),(Nat.le_trans hS.2.2.2.2.2.2 (Ext.size hE))⟩) ⟨E0,hi0,hi1,hi2,hi3,p1,Nat.le_refl _⟩ (fun m hm=>by simp at hm;rcases hm with rfl | rfl <;> rfl) (by kernel_rfl) (by kernel_rfl) (by kernel_rfl) (by kernel_rfl) (A:=?A12) ?hA12 ?howe12 ?hfin12
 case hA12=>
  intro vs
  simp only[putAll,Act.put,sA,sZ,sS,Nat.zero_add,Nat.reduceAdd]
  exact rfl
 case howe12=>
  clear E0 hi0 hi1 hi2 hi3 p1
  intro hf
  refine⟨oM0 0 [] hf rfl rfl,owesM 1 [0] hf rfl rfl (by kernel_rfl) ?_,oM0 2 [] hf rfl rfl,owesM 3 [2] hf rfl rfl (by kernel_rfl) ?_,oM0 4 [] hf rfl rfl,owesM 5 [4] hf rfl rfl (by kernel_rfl) ?_,owesN 6 [] hf rfl (by kernel_rfl) ?_,owesN 7 [] hf rfl (by kernel_rfl) ?_,owesP 8 6 [6,1] hf rfl rfl (by kernel_rfl) rfl (by kernel_rfl) ?_,oM1 9 [3] hf rfl rfl,owesP 10 7 [7,5] hf rfl rfl (by kernel_rfl) rfl (by kernel_rfl) ?_,trivial⟩
  all_goals intro vs W hS hp hx KO hKO
  all_goals simp only[Act.put,sA,sZ,sS]at hKO
  ·have e0:=isOf hp.1;simp only[e0]at hKO;have fc0:=BxA.cell (hS.2.2.2.2.2.1) 0 (v:=.int .i64 lr) rfl;have fc1:=BxA.cell (hS.2.2.2.2.2.1) 1 (v:=.int .i64 ep) rfl;have fc2:=BxA.cell (hS.2.2.2.2.2.1) 2 (v:=.int .i64 d) rfl;go_simp;exact hKO _ W (.refl W) rfl
  ·have e2:=isOf hp.1;simp only[e2]at hKO;have fc3:=BxA.cell (hS.2.2.2.2.2.1) 3 (v:=.int .i64 f) rfl;go_simp;exact hKO _ W (.refl W) rfl
  ·have e4:=isOf hp.1;simp only[e4]at hKO;have fc6:=BxA.cell (hS.2.2.2.2.2.1) 6 (v:=.slice a0 n0 c0) rfl;have fc7:=BxA.cell (hS.2.2.2.2.2.1) 7 (v:=.slice a1 n1 c1) rfl;have fc8:=BxA.cell (hS.2.2.2.2.2.1) 8 (v:=.slice a2 n2 c2) rfl;have fc9:=BxA.cell (hS.2.2.2.2.2.1) 9 (v:=.slice a3 n3 c3) rfl;go_simp;exact hKO _ W (.refl W) rfl
  ·have hn:=BxA.new W 23 #[.int .i64 0,.int .i64 0,.int .i64 0]
   have hsz:=hS.2.2.2.2.2.2
   go_simp
   exact hKO _ _ rfl ⟨_,rfl,hsz,⟨_,hn,(noU_three _ _ _),rfl⟩⟩
  ·have hn:=BxA.new W 27 #[.slice none 0 0,.slice none 0 0,.slice none 0 0,.slice none 0 0]
   have hsz:=hS.2.2.2.2.2.2
   go_simp
   exact hKO _ _ rfl ⟨_,rfl,hsz,⟨_,hn,(noU4 none 0 0 none 0 0 none 0 0 none 0 0),rfl⟩⟩
  ·have q6:=hp.1;have e1:=isOf hp.2.1;simp only[e1]at hKO
   obtain⟨g,ev,hg,hfo⟩:=q6
   replace ev:vs 6=_:=ev
   obtain⟨x0,x1,x2,c0,c1,c2,hfz,W2,hW2,hw,hq⟩:=hfo.put3 (.int .i64 lr) (.int .i64 ep) (.int .i64 d) (noU_three _ _ _)
   have z0:=hfz 0
   have z1:=hfz 1
   have z2:=hfz 2
   simp only[ev]at hKO;go_simp
   rw[← hW2]
   exact hKO _ g rfl hg hw ⟨(Ext.wr hS.1 hw (by omega)),(hS.2.1.wr hw (by omega)),(hS.2.2.1.wr hw (by omega)),(hS.2.2.2.1.wr hw (by omega)),(hS.2.2.2.2.1.wr hw (by omega)),(hS.2.2.2.2.2.1.wr hw (by omega)),(Nat.le_trans hS.2.2.2.2.2.2 hw.apart.size)⟩ ⟨g,ev,hg,hq⟩
  ·have q7:=hp.1;have e5:=isOf hp.2.1;simp only[e5]at hKO
   obtain⟨g,ev,hg,hfo⟩:=q7
   replace ev:vs 7=_:=ev
   obtain⟨x0,x1,x2,x3,c0,c1,c2,c3,hfz,W2,hW2,hw,hq⟩:=hfo.put4 (.slice a0 n0 c0) (.slice a1 n1 c1) (.slice a2 n2 c2) (.slice a3 n3 c3) (noU4 _ _ _ _ _ _ _ _ _ _ _ _)
   have z0:=hfz 0
   have z1:=hfz 1
   have z2:=hfz 2
   have z3:=hfz 3
   simp only[ev]at hKO;go_simp
   rw[← hW2]
   exact hKO _ g rfl hg hw ⟨(Ext.wr hS.1 hw (by omega)),(hS.2.1.wr hw (by omega)),(hS.2.2.1.wr hw (by omega)),(hS.2.2.2.1.wr hw (by omega)),(hS.2.2.2.2.1.wr hw (by omega)),(hS.2.2.2.2.2.1.wr hw (by omega)),(Nat.le_trans hS.2.2.2.2.2.2 hw.apart.size)⟩ ⟨g,ev,hg,hq⟩
 intro vs W12 hS hM hp
 clear szw12 E0 hi0 hi1 hi2 hi3 p1
 obtain⟨E0,hi0,hi1,hi2,hi3,p1,sz12⟩:=hS
 obtain⟨h12_0,h12_1,h12_2,h12_3,h12_4,h12_5,h12_6,h12_7,h12_8,h12_9,h12_10,-⟩:=hp
 skip
 have hh:=h12_8
 obtain⟨g3,ev3,hg3,p3⟩:=hh
 replace ev3:vs 6=_:=ev3
 replace p3:Bx3 W12 g3 23 (.int .i64 lr) (.int .i64 ep) (.int .i64 d):=p3
 skip
 have hh:=h12_10
 obtain⟨g5,ev5,hg5,p5⟩:=hh
 replace ev5:vs 7=_:=ev5
 have ne3_5:g3≠g5:=fun e=>hM.2 6 (by simp) 7 (by simp) (by decide) g3 (by rw[ev3];rfl) (by rw[ev5,e];rfl)
 clear hM
 simp only[ev3,ev5,isOf h12_0,isOf h12_1,isOf h12_2,isOf h12_3,isOf h12_4,isOf h12_5,isOf h12_9]
 clear ev3 ev5 h12_0 h12_1 h12_2 h12_3 h12_4 h12_5 h12_9 h12_6 h12_7 h12_8 h12_10;clear sHB1_p1
 have HG3:=Lib.hid hg3
 clear hg3
 have HG5:=Lib.hid hg5
 clear hg5
 have HN3_5:=Lib.hid ne3_5
 clear ne3_5
 have k1a:=p1.cell 0 (v:=.int .i64 lr) rfl
 have k1b:=p1.cell 1 (v:=.int .i64 ep) rfl
 have k1c:=p1.cell 2 (v:=.int .i64 d) rfl
 have k1d:=p1.cell 3 (v:=.int .i64 f) rfl
 have k1e:=p1.cell 4 (v:=.int .i64 tt) rfl
 have k1f:=p1.cell 5 (v:=.int .i64 c) rfl
 have k1g:=p1.cell 6 (v:=.slice a0 n0 c0) rfl
 have k1h:=p1.cell 7 (v:=.slice a1 n1 c1) rfl
 have k1i:=p1.cell 8 (v:=.slice a2 n2 c2) rfl
 have k1j:=p1.cell 9 (v:=.slice a3 n3 c3) rfl
 obtain⟨k3a,k3b,k3c⟩:=p3.c3
 obtain⟨k5a,k5b,k5c,k5d⟩:=p5.c4
 go_wp2_with fail
 clear k1a k1b k1c k1d k1e k1f k1g k1h k1i k1j k3a k3b k3c k5a k5b k5c k5d
 refine(Tryz.refFew17 a0 n0 c0 a1 n1 c1 a2 n2 c2 a3 n3 c3 36 _ HSM.out).mono ?_
 rintro e Wc ⟨rfl,hE⟩
 replace E0:=(Ext.trans E0 hE);replace hi0:=(hi0.ext hE);replace hi1:=(hi1.ext hE);replace hi2:=(hi2.ext hE);replace hi3:=(hi3.ext hE);replace p1:=(p1.ext hE);replace p3:=(p3.ext hE);replace p5:=(p5.ext hE);clear hE
 by_cases hf:n0+n1+n2+n3≤36
 ·rw[decide_eq_true hf]
  have HN:Hid (n0≤40):=Lib.hid (by omega)
  have HN3:Hid (n0≤36∧n1≤36∧n2≤36):=Lib.hid (by omega)
  clear hf
  have k1a:=p1.cell 0 (v:=.int .i64 lr) rfl
  have k1b:=p1.cell 1 (v:=.int .i64 ep) rfl
  have k1c:=p1.cell 2 (v:=.int .i64 d) rfl
  have k1d:=p1.cell 3 (v:=.int .i64 f) rfl
  have k1e:=p1.cell 4 (v:=.int .i64 tt) rfl
  have k1f:=p1.cell 5 (v:=.int .i64 c) rfl
  have k1g:=p1.cell 6 (v:=.slice a0 n0 c0) rfl
  have k1h:=p1.cell 7 (v:=.slice a1 n1 c1) rfl
  have k1i:=p1.cell 8 (v:=.slice a2 n2 c2) rfl
  have k1j:=p1.cell 9 (v:=.slice a3 n3 c3) rfl
  obtain⟨k3a,k3b,k3c⟩:=p3.c3
  obtain⟨k5a,k5b,k5c,k5d⟩:=p5.c4
  go_wp2_with fail
  clear k1a k1b k1c k1d k1e k1f k1g k1h k1i k1j k3a k3b k3c k5a k5b k5c k5d
  have szc:=Ext.size E0
  refine(Tryz.adaStepTo lr ep d f tt c _ HQ.out.1 HQ.out.2.1 HQ.out.2.2.1 HQ.out.2.2.2 HN.out HST1.out (hi0.mono (Nat.zero_le _) szc) (hi1.mono (Nat.zero_le _) szc) (hi2.mono (Nat.zero_le _) szc) (hi3.mono (Nat.zero_le _) szc)).mono ?_
  rintro e S1 ⟨hE,x11,m11,y11,x12,m12,y12,x13,m13,y13,rfl,i11,i12,i13⟩
  clear szc;replace E0:=(Ext.trans E0 hE);replace hi0:=(hi0.ext hE);replace hi1:=(hi1.ext hE);replace hi2:=(hi2.ext hE);replace hi3:=(hi3.ext hE);replace p1:=(p1.ext hE);replace p3:=(p3.ext hE);replace p5:=(p5.ext hE);clear hE
  obtain⟨hx1,hhx⟩:∃ n,n=S1.heap.size:=⟨_,rfl⟩
  rw[← hhx]at i11 i12 i13
  have szs1:=Nat.le_of_eq hhx
  clear hhx
  have k1a:=p1.cell 0 (v:=.int .i64 lr) rfl
  have k1b:=p1.cell 1 (v:=.int .i64 ep) rfl
  have k1c:=p1.cell 2 (v:=.int .i64 d) rfl
  have k1d:=p1.cell 3 (v:=.int .i64 f) rfl
  have k1e:=p1.cell 4 (v:=.int .i64 tt) rfl
  have k1f:=p1.cell 5 (v:=.int .i64 c) rfl
  have k1g:=p1.cell 6 (v:=.slice a0 n0 c0) rfl
  have k1h:=p1.cell 7 (v:=.slice a1 n1 c1) rfl
  have k1i:=p1.cell 8 (v:=.slice a2 n2 c2) rfl
  have k1j:=p1.cell 9 (v:=.slice a3 n3 c3) rfl
  obtain⟨k3a,k3b,k3c⟩:=p3.c3
  obtain⟨k5a,k5b,k5c,k5d⟩:=p5.c4
  go_upto_region 5 with (fail)
  clear k1a k1b k1c k1d k1e k1f k1g k1h k1i k1j k3a k3b k3c k5a k5b k5c k5d
  have p6:=BxA.new S1 27 #[.slice x11 m11 y11,.slice x12 m12 y12,.slice x13 m13 y13,.slice none 0 0]
  have hE:=Ext.alloc1 S1 (.cells #[.slice x11 m11 y11,.slice x12 m12 y12,.slice x13 m13 y13,.slice none 0 0] 27)
  have lt0:=Ext.size E0
  have ltp1:=p1.lt;have ltp3:=p3.lt;have ltp5:=p5.lt
  have ltszs1:=szs1
  obtain⟨U6,hU6⟩:∃ U6,U6=S1.alloc (.cells #[.slice x11 m11 y11,.slice x12 m12 y12,.slice x13 m13 y13,.slice none 0 0] 27):=⟨_,rfl⟩
  rw[← hU6]at p6 hE ⊢
  clear hU6;replace E0:=(Ext.trans E0 hE);replace hi0:=(hi0.ext hE);replace hi1:=(hi1.ext hE);replace hi2:=(hi2.ext hE);replace hi3:=(hi3.ext hE);replace p1:=(p1.ext hE);replace p3:=(p3.ext hE);replace p5:=(p5.ext hE)
  replace i11:=(i11.ext hE)
  replace i12:=(i12.ext hE)
  replace i13:=(i13.ext hE)
  replace szs1:=(Nat.le_trans szs1 (Ext.size hE))
  clear hE
  obtain⟨g6,hg6⟩:∃ g,g=S1.heap.size:=⟨_,rfl⟩
  rw[← hg6]at p6 lt0 ltp1 ltp3 ltp5 ltszs1 ⊢
  clear hg6
  have HS6:=Lib.hid (And.intro lt0 (And.intro ltp1 (And.intro ltp3 (And.intro ltp5 ltszs1))))
  clear lt0 ltp1 ltp3 ltp5 ltszs1
  by_cases k1:E1=0
  ·subst k1
   obtain⟨K,T,cl,hfK,hT,hc,hK,hT1,hT2⟩:=HOK.out (by trivial)
   have HMO2:=Lib.hid (HMO.out K cl (by trivial) hfK hc)
   clear HMO HOK HNO
   subst hfK hT hc
   have HK:=Lib.hid hK
   have HT:=Lib.hid (And.intro hT1 hT2)
   obtain⟨sh,hsz⟩:∃ s,s=((shareN T K:Nat):Int):=⟨_,rfl⟩
   have hse:shareZ (T:Int) (K:Int)=sh:=by rw[hsz];rfl
   have HSI:Hid (I64 sh):=Lib.hid (by have:=share_64 hT1 hK;unfold I64;omega)
   have HSZ:=Lib.hid hsz
   clear hsz hT1 hT2 hK
   obtain⟨hg3,hc1,hdv,hm2,hv2,hw2,hsh,hF,hG⟩:=HMO2.out
   clear HMO2
   rw[HL.out.2.1,HL.out.2.2.1]at hsh
   have HFO:=Lib.hid (fac_one hsh hdv HN3.out.1)
   rw[hse]at hF hG
   clear hse
   have HC1:Hid (1≤cl∧n0 % cl=0∧cl < 9223372036854775808):=Lib.hid ⟨hc1,hdv,by have:=HQ.out.2.2.2.2;omega⟩
   have HF:=Lib.hid hF
   have HG:=Lib.hid hG
   have hm3:n1=m12:=by have:=i12.len;have:=HL.out;omega
   have hv3:n2=m13:=by have:=i13.len;have:=HL.out;omega
   have hw3:n0=m11:=by have:=i11.len;omega
   have hg4:n0=n3:=by have:=HL.out;omega
   clear hg3 hc1 hdv hm2 hv2 hw2 hsh hF hG
   subst hm3 hv3 hw3 hg4
   have k1a:=p1.cell 0 (v:=.int .i64 lr) rfl
   have k1b:=p1.cell 1 (v:=.int .i64 ep) rfl
   have k1c:=p1.cell 2 (v:=.int .i64 d) rfl
   have k1d:=p1.cell 3 (v:=.int .i64 (K:Int)) rfl
   have k1e:=p1.cell 4 (v:=.int .i64 (T:Int)) rfl
   have k1f:=p1.cell 5 (v:=.int .i64 (cl:Int)) rfl
   have k1g:=p1.cell 6 (v:=.slice a0 n0 c0) rfl
   have k1h:=p1.cell 7 (v:=.slice a1 n1 c1) rfl
   have k1i:=p1.cell 8 (v:=.slice a2 n2 c2) rfl
   have k1j:=p1.cell 9 (v:=.slice a3 n0 c3) rfl
   obtain⟨k3a,k3b,k3c⟩:=p3.c3
   obtain⟨k5a,k5b,k5c,k5d⟩:=p5.c4
   obtain⟨k6a,k6b,k6c,k6d⟩:=p6.c4
   go_wp2_with fail
   clear k1a k1b k1c k1d k1e k1f k1g k1h k1i k1j k3a k3b k3c k5a k5b k5c k5d k6a k6b k6c k6d
   refine(Tryz.refShare T K _ HT.out.1 HT.out.2 HK.out).mono ?_
   rintro e Wh ⟨rfl,hE⟩
   rw[← HSZ.out]
   replace E0:=(Ext.trans E0 hE);replace hi0:=(hi0.ext hE);replace hi1:=(hi1.ext hE);replace hi2:=(hi2.ext hE);replace hi3:=(hi3.ext hE);replace p1:=(p1.ext hE);replace p3:=(p3.ext hE);replace p5:=(p5.ext hE)
   replace i11:=(i11.ext hE)
   replace i12:=(i12.ext hE)
   replace i13:=(i13.ext hE)
   replace szs1:=(Nat.le_trans szs1 (Ext.size hE))
   replace p6:=(p6.ext hE);clear hE
   have k1a:=p1.cell 0 (v:=.int .i64 lr) rfl
   have k1b:=p1.cell 1 (v:=.int .i64 ep) rfl
   have k1c:=p1.cell 2 (v:=.int .i64 d) rfl
   have k1d:=p1.cell 3 (v:=.int .i64 (K:Int)) rfl
   have k1e:=p1.cell 4 (v:=.int .i64 (T:Int)) rfl
   have k1f:=p1.cell 5 (v:=.int .i64 (cl:Int)) rfl
   have k1g:=p1.cell 6 (v:=.slice a0 n0 c0) rfl
   have k1h:=p1.cell 7 (v:=.slice a1 n1 c1) rfl
   have k1i:=p1.cell 8 (v:=.slice a2 n2 c2) rfl
   have k1j:=p1.cell 9 (v:=.slice a3 n0 c3) rfl
   obtain⟨k3a,k3b,k3c⟩:=p3.c3
   obtain⟨k5a,k5b,k5c,k5d⟩:=p5.c4
   obtain⟨k6a,k6b,k6c,k6d⟩:=p6.c4
   go_upto_region 8 with (fail)
   clear k1a k1b k1c k1d k1e k1f k1g k1h k1i k1j k3a k3b k3c k5a k5b k5c k5d k6a k6b k6c k6d;have ltp3:=p3.lt;have ltp5:=p5.lt;have ltp6:=p6.lt
   have ltszs1:=szs1
   have szw13:=Ext.size E0
   refine region_gs [isV (.pointer (some ⟨g5,0,none⟩)),isV (.slice a0 n0 c0),isV (.int .i64 (n0:Int)),isV (.pointer (some ⟨w.heap.size,4,none⟩)),isV (.pointer (some ⟨w.heap.size,5,none⟩)),isV (.int .i64 (cl:Int)),isV (.int .i64 (n0:Int)),isV (.int .i64 (cl:Int))]
    (fun W=>Ext w W∧Iw 0 w.heap.size W a0 n0 c0 (lw)∧Iw 0 w.heap.size W a1 n1 c1 (lm)∧Iw 0 w.heap.size W a2 n2 c2 (lv)∧Iw 0 w.heap.size W a3 n0 c3 (lg)∧BxA W w.heap.size 29 #[.int .i64 lr,.int .i64 ep,.int .i64 d,.int .i64 (K:Int),.int .i64 (T:Int),.int .i64 (cl:Int),.slice a0 n0 c0,.slice a1 n1 c1,.slice a2 n2 c2,.slice a3 n0 c3]∧Bx3 W g3 23 (.int .i64 lr) (.int .i64 ep) (.int .i64 d)∧BxA W g5 27 #[.slice a0 n0 c0,.slice a1 n1 c1,.slice a2 n2 c2,.slice a3 n0 c3]∧Iw Wc.heap.size hx1 W x11 n0 y11 (xw1)∧Iw Wc.heap.size hx1 W x12 n1 y12 (xm1)∧Iw Wc.heap.size hx1 W x13 n2 y13 (xv1)∧hx1≤W.heap.size∧BxA W g6 27 #[.slice x11 n0 y11,.slice x12 n1 y12,.slice x13 n2 y13,.slice none 0 0]∧Wh.heap.size≤W.heap.size) ⟨Good.is _,Good.is _,Good.is _,Good.is _,Good.is _,Good.is _,Good.is _,Good.is _,trivial⟩
    ⟨E0,hi0,hi1,hi2,hi3,p1,p3,p5,i11,i12,i13,szs1,p6,Nat.le_refl _⟩ (A:=?A13) ?hA13 ?howe13 ?hfin13
   case hA13=>
    intro vs
    simp only[putAll,Act.put,sA,sZ,sS,Nat.zero_add,Nat.reduceAdd]
    exact rfl
   case howe13=>
    clear E0 hi0 hi1 hi2 hi3 p1 p3 p5 i11 i12 i13 szs1 p6
    intro hf
    refine⟨oP0 0 [] hf rfl,oE 1 [0] hf rfl ?_,oP1 2 [1] hf rfl,oP0 3 [] hf rfl,oP1 4 [3] hf rfl,oE 5 [4] hf rfl ?_,oP1 6 [2] hf rfl,oP1 7 [5] hf rfl,trivial⟩
    all_goals intro vs W hS hp hx KO hKO
    all_goals simp only[Act.put,sA,sZ,sS]at hKO
    ·have e0:=isOf hp.1;simp only[e0]at hKO;have fc0:=BxA.cell (hS.2.2.2.2.2.2.2.1) 0 (v:=.slice a0 n0 c0) rfl;go_simp;exact hKO _ W (.refl W) rfl
    ·have e4:=isOf hp.1;simp only[e4]at hKO;have fc5:=BxA.cell (hS.2.2.2.2.2.1) 5 (v:=.int .i64 (cl:Int)) rfl;go_simp;exact hKO _ W (.refl W) rfl
   intro vs W13 hS hp
   clear ltszs1 szw13 E0 hi0 hi1 hi2 hi3 p1 p3 p5 i11 i12 i13 szs1 p6
   obtain⟨E0,hi0,hi1,hi2,hi3,p1,p3,p5,i11,i12,i13,szs1,p6,sz13⟩:=hS
   obtain⟨h13_0,h13_1,h13_2,h13_3,h13_4,h13_5,h13_6,h13_7,-⟩:=hp
   simp only[isOf h13_0,isOf h13_1,isOf h13_2,isOf h13_3,isOf h13_4,isOf h13_5,isOf h13_6,isOf h13_7]
   clear h13_0 h13_1 h13_2 h13_3 h13_4 h13_5 h13_6 h13_7
   have en1:((n1:Int) != (n1:Int))=false:=by simp
   have en2:((n2:Int) != (n2:Int))=false:=by simp
   have en0:((n0:Int) != (n0:Int))=false:=by simp
   have k1a:=p1.cell 0 (v:=.int .i64 lr) rfl
   have k1b:=p1.cell 1 (v:=.int .i64 ep) rfl
   have k1c:=p1.cell 2 (v:=.int .i64 d) rfl
   have k1d:=p1.cell 3 (v:=.int .i64 (K:Int)) rfl
   have k1e:=p1.cell 4 (v:=.int .i64 (T:Int)) rfl
   have k1f:=p1.cell 5 (v:=.int .i64 (cl:Int)) rfl
   have k1g:=p1.cell 6 (v:=.slice a0 n0 c0) rfl
   have k1h:=p1.cell 7 (v:=.slice a1 n1 c1) rfl
   have k1i:=p1.cell 8 (v:=.slice a2 n2 c2) rfl
   have k1j:=p1.cell 9 (v:=.slice a3 n0 c3) rfl
   obtain⟨k3a,k3b,k3c⟩:=p3.c3
   obtain⟨k5a,k5b,k5c,k5d⟩:=p5.c4
   obtain⟨k6a,k6b,k6c,k6d⟩:=p6.c4
   go_wp2_with fail
   clear k1a k1b k1c k1d k1e k1f k1g k1h k1i k1j k3a k3b k3c k5a k5b k5c k5d k6a k6b k6c k6d
   refine(Tryz.refFac19 n0 cl HC1.out.1 HC1.out.2.2 HN.out _).mono ?_
   rintro e Wi ⟨rfl,hE⟩
   replace E0:=(Ext.trans E0 hE);replace hi0:=(hi0.ext hE);replace hi1:=(hi1.ext hE);replace hi2:=(hi2.ext hE);replace hi3:=(hi3.ext hE);replace p1:=(p1.ext hE);replace p3:=(p3.ext hE);replace p5:=(p5.ext hE)
   replace i11:=(i11.ext hE)
   replace i12:=(i12.ext hE)
   replace i13:=(i13.ext hE)
   replace szs1:=(Nat.le_trans szs1 (Ext.size hE))
   replace p6:=(p6.ext hE);clear hE;clear en1 en2 en0 hi0 i11
   go_upto_if 82 with (fail)
   obtain⟨hv,hhv⟩:∃ h:Int,h=if facB n0 cl=true then 4 else 3:=⟨_,rfl⟩
   have HHV:=Lib.hid hhv
   have H34:Hid (hv=3∨hv=4):=Lib.hid (by rw[hhv];split;exact .inr rfl;exact .inl rfl)
   clear hhv
   go_cut [12] from 80 to 82 (fun s wx=>s=.int .i64 hv∧Ext w wx∧Iw 0 w.heap.size wx a1 n1 c1 (lm)∧Iw 0 w.heap.size wx a2 n2 c2 (lv)∧Iw 0 w.heap.size wx a3 n0 c3 (lg)∧BxA wx w.heap.size 29 #[.int .i64 lr,.int .i64 ep,.int .i64 d,.int .i64 (K:Int),.int .i64 (T:Int),.int .i64 (cl:Int),.slice a0 n0 c0,.slice a1 n1 c1,.slice a2 n2 c2,.slice a3 n0 c3]∧Bx3 wx g3 23 (.int .i64 lr) (.int .i64 ep) (.int .i64 d)∧BxA wx g5 27 #[.slice a0 n0 c0,.slice a1 n1 c1,.slice a2 n2 c2,.slice a3 n0 c3]∧Iw Wc.heap.size hx1 wx x12 n1 y12 (xm1)∧Iw Wc.heap.size hx1 wx x13 n2 y13 (xv1)∧hx1≤wx.heap.size∧BxA wx g6 27 #[.slice x11 n0 y11,.slice x12 n1 y12,.slice x13 n2 y13,.slice none 0 0])
   case first=>
    cases hb:facB n0 cl
    ·go_wp2;go_meet;exact⟨by rw[HHV.out,hb];rfl,E0,hi1,hi2,hi3,p1,p3,p5,i12,i13,szs1,p6⟩
    ·go_wp2;go_meet;exact⟨by rw[HHV.out,hb];rfl,E0,hi1,hi2,hi3,p1,p3,p5,i12,i13,szs1,p6⟩
   case rest=>
    clear E0 hi1 hi2 hi3 p1 p3 p5 i12 i13 szs1 p6
    obtain⟨rfl,E0,hi1,hi2,hi3,p1,p3,p5,i12,i13,szs1,p6⟩:=hcut
    have k1a:=p1.cell 0 (v:=.int .i64 lr) rfl
    have k1b:=p1.cell 1 (v:=.int .i64 ep) rfl
    have k1c:=p1.cell 2 (v:=.int .i64 d) rfl
    have k1d:=p1.cell 3 (v:=.int .i64 (K:Int)) rfl
    have k1e:=p1.cell 4 (v:=.int .i64 (T:Int)) rfl
    have k1f:=p1.cell 5 (v:=.int .i64 (cl:Int)) rfl
    have k1g:=p1.cell 6 (v:=.slice a0 n0 c0) rfl
    have k1h:=p1.cell 7 (v:=.slice a1 n1 c1) rfl
    have k1i:=p1.cell 8 (v:=.slice a2 n2 c2) rfl
    have k1j:=p1.cell 9 (v:=.slice a3 n0 c3) rfl
    obtain⟨k3a,k3b,k3c⟩:=p3.c3
    obtain⟨k5a,k5b,k5c,k5d⟩:=p5.c4
    obtain⟨k6a,k6b,k6c,k6d⟩:=p6.c4
    go_wp2_with fail
    clear k1a k1b k1c k1d k1e k1f k1g k1h k1i k1j k3a k3b k3c k5a k5b k5c k5d k6a k6b k6c k6d
    go_loopw [13] (fun i wr=>∃ k:Nat,i=.int .i64 (k:Int)∧k≤n1∧Ext w wr∧Iw 0 w.heap.size wr a1 n1 c1 (lm)∧Iw 0 w.heap.size wr a2 n2 c2 (lv)∧Iw 0 w.heap.size wr a3 n0 c3 (lg)∧BxA wr w.heap.size 29 #[.int .i64 lr,.int .i64 ep,.int .i64 d,.int .i64 (K:Int),.int .i64 (T:Int),.int .i64 (cl:Int),.slice a0 n0 c0,.slice a1 n1 c1,.slice a2 n2 c2,.slice a3 n0 c3]∧Bx3 wr g3 23 (.int .i64 lr) (.int .i64 ep) (.int .i64 d)∧BxA wr g5 27 #[.slice a0 n0 c0,.slice a1 n1 c1,.slice a2 n2 c2,.slice a3 n0 c3]∧Iw Wc.heap.size hx1 wr x12 n1 y12 (xm1)∧Iw Wc.heap.size hx1 wr x13 n2 y13 (xv1)∧hx1≤wr.heap.size∧BxA wr g6 27 #[.slice x11 n0 y11,.slice x12 n1 y12,.slice x13 n2 y13,.slice none 0 0]) (fun i _=>n1 - (intOf i).toNat)
    case atStart=>exact⟨0,rfl,Nat.zero_le _,E0,hi1,hi2,hi3,p1,p3,p5,i12,i13,szs1,p6⟩
    case round=>
     clear E0 hi1 hi2 hi3 p1 p3 p5 i12 i13 szs1 p6
     obtain⟨k,rfl,hk,E0,hi1,hi2,hi3,p1,p3,p5,i12,i13,szs1,p6⟩:=hrel
     by_cases hlt:k < n1
     ·have hltI:(k:Int) < (n1:Int):=by omega
      have hk63:(k:Int) < 9223372036854775807:=by have:=HN3.out;omega
      have fb:=HFO.out.1 (by omega)
      obtain⟨c2,c36,hp,-,-,-⟩:=HFO.out.2.1 fb
      obtain⟨j,hj⟩:∃ j,j=k*cl:=⟨_,rfl⟩
      have hjn:j+cl≤n0:=by rw[hj,← hp,← Nat.succ_mul];exact Nat.mul_le_mul_right _ hlt
      have HNK:Hid (0≤atL xm1 k∧FarOk K (atL xm1 k) (mixR K sh (atL lm k) (sqM K ep lg j 1 cl)) 4):=Lib.hid (by rw[hj];exact(HF.out fb).1 k (by have:=HL.out;omega))
      have HM:=Lib.hid (hi1.i64 hlt)
      have HX:=Lib.hid (i12.i64 hlt)
      have hw1:IntKind.i64.wrap ((k:Int)*(cl:Int))=(j:Int):=by rw[← Int.natCast_mul,← hj,IntKind.wrap_i64];have:=HN3.out;omega
      have HJ:Hid (j+cl≤n0∧j≤1000∧0 < cl∧cl≤40):=Lib.hid (by have:=HN3.out;omega)
      have hcl:0 < cl∧cl≤40:=⟨HJ.out.2.2.1,HJ.out.2.2.2⟩
      have HLT:=Lib.hid hlt
      clear hj hk hp c2 c36 fb hjn
      obtain⟨b_a1,o_a1,rfl,-,-⟩:=hi1.some (by omega)
      obtain⟨b_x12,o_x12,rfl,-,-⟩:=i12.some (by omega)
      have SQ:Hid (SmR 10 (sqM K ep lg j 1 cl)):=Lib.hid (sqM_sm HQ.out.2.1 (fun i=>atL_i64 hi3.in64 i) HK.out (by omega) (by omega))
      have SX:Hid (SmR 41 (mixR K sh (atL lm k) (sqM K ep lg j 1 cl))):=Lib.hid (mixR_sm HSI.out HM.out HK.out SQ.out)
      have HPOS:Hid (¬ atL xm1 k < 0):=Lib.hid (by have:=HNK.out.1;omega)
      have k1a:=p1.cell 0 (v:=.int .i64 lr) rfl
      have k1b:=p1.cell 1 (v:=.int .i64 ep) rfl
      have k1c:=p1.cell 2 (v:=.int .i64 d) rfl
      have k1d:=p1.cell 3 (v:=.int .i64 (K:Int)) rfl
      have k1e:=p1.cell 4 (v:=.int .i64 (T:Int)) rfl
      have k1f:=p1.cell 5 (v:=.int .i64 (cl:Int)) rfl
      have k1g:=p1.cell 6 (v:=.slice a0 n0 c0) rfl
      have k1h:=p1.cell 7 (v:=.slice (some ⟨b_a1,o_a1,none⟩) n1 c1) rfl
      have k1i:=p1.cell 8 (v:=.slice a2 n2 c2) rfl
      have k1j:=p1.cell 9 (v:=.slice a3 n0 c3) rfl
      obtain⟨k3a,k3b,k3c⟩:=p3.c3
      obtain⟨k5a,k5b,k5c,k5d⟩:=p5.c4
      obtain⟨k6a,k6b,k6c,k6d⟩:=p6.c4
      go_upto_region 17 with (fail)
      clear k1a k1b k1c k1d k1e k1f k1g k1h k1i k1j k3a k3b k3c k5a k5b k5c k5d k6a k6b k6c k6d;have ltp1:=p1.lt;have ltp3:=p3.lt;have ltp5:=p5.lt;have ltp6:=p6.lt
      have ltszs1:=szs1
      have szw14:=Ext.size E0
      refine region_gs ((.one fun v _=>v=.pointer (some ⟨g6,1,none⟩)) ::
        (.one fun v _=>v=.slice (some ⟨b_x12,o_x12,none⟩) n1 y12) ::
        (.one fun v _=>v=.int .i64 (k:Int)) ::
        (.one fun v _=>v=.pointer (some ⟨b_x12,o_x12+k,none⟩)) ::
        (.one fun v _=>v=.int .i64 (atL xm1 k)) ::
        (.one fun v _=>v=.bool false) ::
        (.one fun v _=>v=.bool false) ::
        (.one fun v _=>v=.pointer (some ⟨g6,1,none⟩)) ::
        (.one fun v _=>v=.slice (some ⟨b_x12,o_x12,none⟩) n1 y12) ::
        (.one fun v _=>v=.int .i64 (k:Int)) ::
        (.one fun v _=>v=.pointer (some ⟨b_x12,o_x12+k,none⟩)) ::
        (.one fun v _=>v=.int .i64 (atL xm1 k)) ::
        (.one fun v _=>v=.int .i64 sh) ::
        (.one fun v _=>v=.int .i64 (K:Int)) ::
        (.one fun v _=>v=.pointer (some ⟨g5,1,none⟩)) ::
        (.one fun v _=>v=.slice (some ⟨b_a1,o_a1,none⟩) n1 c1) ::
        (.one fun v _=>v=.int .i64 (k:Int)) ::
        (.one fun v _=>v=.pointer (some ⟨b_a1,o_a1+k,none⟩)) ::
        (.one fun v _=>v=.int .i64 (atL lm k)) ::
        (.one fun v _=>v=.agg #[.int .i64 lr,.int .i64 ep,.int .i64 d]) ::
        (.one fun v _=>v=.int .i64 (K:Int)) ::
        (.one fun v _=>v=.pointer (some ⟨g5,3,none⟩)) ::
        (.one fun v _=>v=.slice a3 n0 c3) ::
        (.one fun v _=>v=.int .i64 (k:Int)) ::
        (.one fun v _=>v=.int .i64 (cl:Int)) ::
        (.one fun v _=>v=.int .i64 (j:Int)) ::
        (.one fun v _=>v=.int .i64 (cl:Int)) ::
        (.one fun v _=>v=.agg #[.int .i64 (j:Int),.int .i64 1,.int .i64 (cl:Int)]) ::
        (.one fun v W=>Rw W v (sqM K ep lg j 1 cl)) ::
        (.one fun v W=>Rw W v (mixR K sh (atL lm k) (sqM K ep lg j 1 cl))) ::
        (.one fun v _=>v=.int .i64 (K:Int)) ::
        (.one fun v _=>v=.bool true) ::
        (.one fun v _=>v=.bool false) ::
        (.one fun v _=>v=.bool false) :: [])
       (fun W=>Ext w W∧Iw 0 w.heap.size W (some ⟨b_a1,o_a1,none⟩) n1 c1 (lm)∧Iw 0 w.heap.size W a2 n2 c2 (lv)∧Iw 0 w.heap.size W a3 n0 c3 (lg)∧BxA W w.heap.size 29 #[.int .i64 lr,.int .i64 ep,.int .i64 d,.int .i64 (K:Int),.int .i64 (T:Int),.int .i64 (cl:Int),.slice a0 n0 c0,.slice (some ⟨b_a1,o_a1,none⟩) n1 c1,.slice a2 n2 c2,.slice a3 n0 c3]∧Bx3 W g3 23 (.int .i64 lr) (.int .i64 ep) (.int .i64 d)∧BxA W g5 27 #[.slice a0 n0 c0,.slice (some ⟨b_a1,o_a1,none⟩) n1 c1,.slice a2 n2 c2,.slice a3 n0 c3]∧Iw Wc.heap.size hx1 W (some ⟨b_x12,o_x12,none⟩) n1 y12 (xm1)∧Iw Wc.heap.size hx1 W x13 n2 y13 (xv1)∧hx1≤W.heap.size∧BxA W g6 27 #[.slice x11 n0 y11,.slice (some ⟨b_x12,o_x12,none⟩) n1 y12,.slice x13 n2 y13,.slice none 0 0]∧wr.heap.size≤W.heap.size) ⟨Good.is _,Good.is _,Good.is _,Good.is _,Good.is _,Good.is _,Good.is _,Good.is _,Good.is _,Good.is _,Good.is _,Good.is _,Good.is _,Good.is _,Good.is _,Good.is _,Good.is _,Good.is _,Good.is _,Good.is _,Good.is _,Good.is _,Good.is _,Good.is _,Good.is _,Good.is _,Good.is _,Good.is _,Good.rat _,Good.rat _,Good.is _,Good.is _,Good.is _,Good.is _,trivial⟩
       ⟨E0,hi1,hi2,hi3,p1,p3,p5,i12,i13,szs1,p6,Nat.le_refl _⟩ (A:=?A14) ?hA14 ?howe14 ?hfin14
      case hA14=>
       intro vs
       simp only[putAll,Act.put,sA,sZ,sS,Nat.zero_add,Nat.reduceAdd]
       exact rfl
      case howe14=>
       clear E0 hi1 hi2 hi3 p1 p3 p5 i12 i13 szs1 p6
       intro hf
       refine⟨oP0 0 [] hf rfl,oE 1 [0] hf rfl ?_,oP0 2 [] hf rfl,oP2 3 [1,2] hf rfl,oE 4 [3] hf rfl ?_,oE 5 [4] hf rfl ?_,oP1 6 [5] hf rfl,oP1 7 [6] hf rfl,oE 8 [6,7] hf rfl ?_,oP1 9 [6] hf rfl,oP3 10 [6,8,9] hf rfl,oE 11 [6,10] hf rfl ?_,oP1 12 [6] hf rfl,oP1 13 [6] hf rfl,oP1 14 [6] hf rfl,oE 15 [6,14] hf rfl ?_,oP1 16 [6] hf rfl,oP3 17 [6,15,16] hf rfl,oE 18 [6,17] hf rfl ?_,oE 19 [6] hf rfl ?_,oP1 20 [6] hf rfl,oP1 21 [6] hf rfl,oE 22 [6,21] hf rfl ?_,oP1 23 [6] hf rfl,oP1 24 [6] hf rfl,oP3 25 [6,23,24] hf rfl,oP1 26 [6] hf rfl,oP3 27 [6,25,26] hf rfl,oE 28 [6,19,20,22,27] hf rfl ?_,oE 29 [6,12,13,18,28] hf rfl ?_,oP1 30 [6] hf rfl,oE 31 [6,11,29,30] hf rfl ?_,oP2 32 [6,31] hf rfl,oP2 33 [6,32] hf rfl,trivial⟩
       all_goals intro vs W hS hp hx KO hKO
       all_goals simp only[Act.put,sA,sZ,sS]at hKO
       ·have e0:=isOf hp.1;simp only[e0]at hKO;have fc1:=BxA.cell (hS.2.2.2.2.2.2.2.2.2.2.1) 1 (v:=.slice (some ⟨b_x12,o_x12,none⟩) n1 y12) rfl;go_simp;exact hKO _ W (.refl W) rfl
       ·have e3:=isOf hp.1;simp only[e3]at hKO
        have fc:=Iw.cell (hS.2.2.2.2.2.2.2.1) (i:=k) (by omega)
        go_simp;exact hKO _ W (.refl W) rfl
       ·have e4:=isOf hp.1;simp only[e4]at hKO;go_simp;exact hKO _ W (Ext.refl W) (by first | rfl | exact congrArg Value.bool (decide_eq_false HPOS.out))
       ·have e6:=isOf hp.1;have e7:=isOf hp.2.1;simp only[e6,e7]at hKO;have fc1:=BxA.cell (hS.2.2.2.2.2.2.2.2.2.2.1) 1 (v:=.slice (some ⟨b_x12,o_x12,none⟩) n1 y12) rfl;go_simp;exact hKO _ W (.refl W) rfl
       ·have e6:=isOf hp.1;have e10:=isOf hp.2.1;simp only[e6,e10]at hKO
        have fc:=Iw.cell (hS.2.2.2.2.2.2.2.1) (i:=k) (by omega)
        go_simp;exact hKO _ W (.refl W) rfl
       ·have e6:=isOf hp.1;have e14:=isOf hp.2.1;simp only[e6,e14]at hKO;have fc1:=BxA.cell (hS.2.2.2.2.2.2.1) 1 (v:=.slice (some ⟨b_a1,o_a1,none⟩) n1 c1) rfl;go_simp;exact hKO _ W (.refl W) rfl
       ·have e6:=isOf hp.1;have e17:=isOf hp.2.1;simp only[e6,e17]at hKO
        have fc:=Iw.cell (hS.2.1) (i:=k) (by omega)
        go_simp;exact hKO _ W (.refl W) rfl
       ·have e6:=isOf hp.1;simp only[e6]at hKO;have fc0:=hS.2.2.2.2.2.1.cell0;have fc1:=hS.2.2.2.2.2.1.cell1;have fc2:=hS.2.2.2.2.2.1.cell2;go_simp;exact hKO _ W (.refl W) rfl
       ·have e6:=isOf hp.1;have e21:=isOf hp.2.1;simp only[e6,e21]at hKO;have fc3:=BxA.cell (hS.2.2.2.2.2.2.1) 3 (v:=.slice a3 n0 c3) rfl;go_simp;exact hKO _ W (.refl W) rfl
       ·have e6:=isOf hp.1;have e19:=isOf hp.2.1;have e20:=isOf hp.2.2.1;have e22:=isOf hp.2.2.2.1;have e27:=isOf hp.2.2.2.2.1;simp only[e6,e19,e20,e22,e27]at hKO;go_simp
        refine(Tryz.squares19a lr ep d K j cl HK.out HQ.out.2.1 HJ.out.2.2.1 HJ.out.2.2.2 HJ.out.2.1 HJ.out.1 (hS.2.2.2.1.mono (Nat.le_refl _) (Ext.size hS.1))).mono ?_
        rintro e W1 ⟨v,rfl,hv,hE⟩
        exact hKO _ W1 hE hv
       ·have e6:=isOf hp.1;have e12:=isOf hp.2.1;have e13:=isOf hp.2.2.1;have e18:=isOf hp.2.2.2.1;have q28:=hp.2.2.2.2.1;simp only[e6,e12,e13,e18]at hKO;go_simp
        refine(Tryz.mixed19 sh (atL lm k) K HK.out HSI.out HM.out q28 SQ.out).mono ?_
        rintro e W1 ⟨v,rfl,hv,hE⟩
        exact hKO _ W1 hE hv
       ·have e6:=isOf hp.1;have e11:=isOf hp.2.1;have q29:=hp.2.2.1;have e30:=isOf hp.2.2.2.1;simp only[e6,e11,e30]at hKO;go_simp
        refine(Tryz.far19 (atL xm1 k) K HK.out HX.out.1 HX.out.2 q29 SX.out 4 (by have:=H34.out;omega) (by have:=H34.out;omega) HNK.out.2).mono ?_
        rintro e W1 ⟨rfl,hE⟩
        exact hKO _ W1 hE rfl
      intro vs W14 hS hp
      clear ltszs1 szw14 E0 hi1 hi2 hi3 p1 p3 p5 i12 i13 szs1 p6
      obtain⟨E0,hi1,hi2,hi3,p1,p3,p5,i12,i13,szs1,p6,sz14⟩:=hS
      obtain⟨h14_0,h14_1,h14_2,h14_3,h14_4,h14_5,h14_6,h14_7,h14_8,h14_9,h14_10,h14_11,h14_12,h14_13,h14_14,h14_15,h14_16,h14_17,h14_18,h14_19,h14_20,h14_21,h14_22,h14_23,h14_24,h14_25,h14_26,h14_27,h14_28,h14_29,h14_30,h14_31,h14_32,h14_33,-⟩:=hp
      simp only[isOf h14_0,isOf h14_1,isOf h14_2,isOf h14_3,isOf h14_4,isOf h14_5,isOf h14_6,isOf h14_7,isOf h14_8,isOf h14_9,isOf h14_10,isOf h14_11,isOf h14_12,isOf h14_13,isOf h14_14,isOf h14_15,isOf h14_16,isOf h14_17,isOf h14_18,isOf h14_19,isOf h14_20,isOf h14_21,isOf h14_22,isOf h14_23,isOf h14_24,isOf h14_25,isOf h14_26,isOf h14_27,isOf h14_30,isOf h14_31,isOf h14_32,isOf h14_33]
      replace h14_28:Rw W14 (vs 28) (sqM K ep lg j 1 cl):=h14_28
      generalize vs 28=u14_28 at h14_28 ⊢
      replace h14_29:Rw W14 (vs 29) (mixR K sh (atL lm k) (sqM K ep lg j 1 cl)):=h14_29
      generalize vs 29=u14_29 at h14_29 ⊢
      clear h14_0 h14_1 h14_2 h14_3 h14_4 h14_5 h14_6 h14_7 h14_8 h14_9 h14_10 h14_11 h14_12 h14_13 h14_14 h14_15 h14_16 h14_17 h14_18 h14_19 h14_20 h14_21 h14_22 h14_23 h14_24 h14_25 h14_26 h14_27 h14_30 h14_31 h14_32 h14_33;go_wp2
      go_roundw
      case rel=>exact⟨k+1,by go_num,HLT.out,E0,hi1,hi2,hi3,p1,p3,p5,i12,i13,szs1,p6⟩
      case measure=>simp[intOf];have:=HLT.out;omega
     ·have hge:¬ (k:Int) < (n1:Int):=by omega
      clear hk hlt
      have k1a:=p1.cell 0 (v:=.int .i64 lr) rfl
      have k1b:=p1.cell 1 (v:=.int .i64 ep) rfl
      have k1c:=p1.cell 2 (v:=.int .i64 d) rfl
      have k1d:=p1.cell 3 (v:=.int .i64 (K:Int)) rfl
      have k1e:=p1.cell 4 (v:=.int .i64 (T:Int)) rfl
      have k1f:=p1.cell 5 (v:=.int .i64 (cl:Int)) rfl
      have k1g:=p1.cell 6 (v:=.slice a0 n0 c0) rfl
      have k1h:=p1.cell 7 (v:=.slice a1 n1 c1) rfl
      have k1i:=p1.cell 8 (v:=.slice a2 n2 c2) rfl
      have k1j:=p1.cell 9 (v:=.slice a3 n0 c3) rfl
      obtain⟨k3a,k3b,k3c⟩:=p3.c3
      obtain⟨k5a,k5b,k5c,k5d⟩:=p5.c4
      obtain⟨k6a,k6b,k6c,k6d⟩:=p6.c4
      go_wp2_with fail
      clear k1a k1b k1c k1d k1e k1f k1g k1h k1i k1j k3a k3b k3c k5a k5b k5c k5d k6a k6b k6c k6d
      go_loopw [14] (fun i wr=>∃ k:Nat,i=.int .i64 (k:Int)∧k≤n2∧Ext w wr∧Iw 0 w.heap.size wr a1 n1 c1 (lm)∧Iw 0 w.heap.size wr a2 n2 c2 (lv)∧Iw 0 w.heap.size wr a3 n0 c3 (lg)∧BxA wr w.heap.size 29 #[.int .i64 lr,.int .i64 ep,.int .i64 d,.int .i64 (K:Int),.int .i64 (T:Int),.int .i64 (cl:Int),.slice a0 n0 c0,.slice a1 n1 c1,.slice a2 n2 c2,.slice a3 n0 c3]∧Bx3 wr g3 23 (.int .i64 lr) (.int .i64 ep) (.int .i64 d)∧BxA wr g5 27 #[.slice a0 n0 c0,.slice a1 n1 c1,.slice a2 n2 c2,.slice a3 n0 c3]∧Iw Wc.heap.size hx1 wr x12 n1 y12 (xm1)∧Iw Wc.heap.size hx1 wr x13 n2 y13 (xv1)∧hx1≤wr.heap.size∧BxA wr g6 27 #[.slice x11 n0 y11,.slice x12 n1 y12,.slice x13 n2 y13,.slice none 0 0]) (fun i _=>n2 - (intOf i).toNat)
      case atStart=>exact⟨0,rfl,Nat.zero_le _,E0,hi1,hi2,hi3,p1,p3,p5,i12,i13,szs1,p6⟩
      case round=>
       clear E0 hi1 hi2 hi3 p1 p3 p5 i12 i13 szs1 p6
       obtain⟨k,rfl,hk,E0,hi1,hi2,hi3,p1,p3,p5,i12,i13,szs1,p6⟩:=hrel
       by_cases hlt:k < n2
       ·have hltI:(k:Int) < (n2:Int):=by omega
        have hk63:(k:Int) < 9223372036854775807:=by have:=HN3.out;omega
        have HLT:=Lib.hid hlt
        have HM:=Lib.hid (hi2.i64 hlt)
        have HX:=Lib.hid (i13.i64 hlt)
        clear hk
        obtain⟨b_a2,o_a2,rfl,-,-⟩:=hi2.some (by omega)
        obtain⟨b_x13,o_x13,rfl,-,-⟩:=i13.some (by omega)
        have k1a:=p1.cell 0 (v:=.int .i64 lr) rfl
        have k1b:=p1.cell 1 (v:=.int .i64 ep) rfl
        have k1c:=p1.cell 2 (v:=.int .i64 d) rfl
        have k1d:=p1.cell 3 (v:=.int .i64 (K:Int)) rfl
        have k1e:=p1.cell 4 (v:=.int .i64 (T:Int)) rfl
        have k1f:=p1.cell 5 (v:=.int .i64 (cl:Int)) rfl
        have k1g:=p1.cell 6 (v:=.slice a0 n0 c0) rfl
        have k1h:=p1.cell 7 (v:=.slice a1 n1 c1) rfl
        have k1i:=p1.cell 8 (v:=.slice (some ⟨b_a2,o_a2,none⟩) n2 c2) rfl
        have k1j:=p1.cell 9 (v:=.slice a3 n0 c3) rfl
        obtain⟨k3a,k3b,k3c⟩:=p3.c3
        obtain⟨k5a,k5b,k5c,k5d⟩:=p5.c4
        obtain⟨k6a,k6b,k6c,k6d⟩:=p6.c4
        go_upto_region 23 with (fail)
        clear k1a k1b k1c k1d k1e k1f k1g k1h k1i k1j k3a k3b k3c k5a k5b k5c k5d k6a k6b k6c k6d
        have p15:=BxA.new wr 48 #[.int .i64 (k:Int),.int .i64 1,.int .i64 1]
        have hE:=Ext.alloc1 wr (.cells #[.int .i64 (k:Int),.int .i64 1,.int .i64 1] 48)
        have lt0:=Ext.size E0
        have ltp1:=p1.lt;have ltp3:=p3.lt;have ltp5:=p5.lt
        have ltszs1:=szs1
        have ltp6:=p6.lt
        obtain⟨U15,hU15⟩:∃ U15,U15=wr.alloc (.cells #[.int .i64 (k:Int),.int .i64 1,.int .i64 1] 48):=⟨_,rfl⟩
        rw[← hU15]at p15 hE ⊢
        clear hU15;replace E0:=(Ext.trans E0 hE);replace hi1:=(hi1.ext hE);replace hi2:=(hi2.ext hE);replace hi3:=(hi3.ext hE);replace p1:=(p1.ext hE);replace p3:=(p3.ext hE);replace p5:=(p5.ext hE)
        replace i12:=(i12.ext hE)
        replace i13:=(i13.ext hE)
        replace szs1:=(Nat.le_trans szs1 (Ext.size hE))
        replace p6:=(p6.ext hE);clear hE
        obtain⟨g15,hg15⟩:∃ g,g=wr.heap.size:=⟨_,rfl⟩
        rw[← hg15]at p15 lt0 ltp1 ltp3 ltp5 ltszs1 ltp6 ⊢
        clear hg15
        have HS15:=Lib.hid (And.intro lt0 (And.intro ltp1 (And.intro ltp3 (And.intro ltp5 (And.intro ltszs1 ltp6)))))
        clear lt0 ltp1 ltp3 ltp5 ltszs1 ltp6
        replace p15:Bx3 U15 g15 48 (.int .i64 (k:Int)) (.int .i64 1) (.int .i64 1):=p15
        go_upto_if 134 with (fail)
        go_cut [] from 131 to 140 (fun wx=>∃ st m:Nat,Hid ((0≤atL xv1 k∧FarOk K (atL xv1 k) (mixR K sh (atL lv k) (sqM K ep lg k st m)) hv)∧0 < m∧m≤40∧st≤1000∧k≤1000∧∀ i,i < m→k+i*st < n0)∧Ext w wx∧Iw 0 w.heap.size wx a1 n1 c1 (lm)∧Iw 0 w.heap.size wx (some ⟨b_a2,o_a2,none⟩) n2 c2 (lv)∧Iw 0 w.heap.size wx a3 n0 c3 (lg)∧BxA wx w.heap.size 29 #[.int .i64 lr,.int .i64 ep,.int .i64 d,.int .i64 (K:Int),.int .i64 (T:Int),.int .i64 (cl:Int),.slice a0 n0 c0,.slice a1 n1 c1,.slice (some ⟨b_a2,o_a2,none⟩) n2 c2,.slice a3 n0 c3]∧Bx3 wx g3 23 (.int .i64 lr) (.int .i64 ep) (.int .i64 d)∧BxA wx g5 27 #[.slice a0 n0 c0,.slice a1 n1 c1,.slice (some ⟨b_a2,o_a2,none⟩) n2 c2,.slice a3 n0 c3]∧Iw Wc.heap.size hx1 wx x12 n1 y12 (xm1)∧Iw Wc.heap.size hx1 wx (some ⟨b_x13,o_x13,none⟩) n2 y13 (xv1)∧hx1≤wx.heap.size∧BxA wx g6 27 #[.slice x11 n0 y11,.slice x12 n1 y12,.slice (some ⟨b_x13,o_x13,none⟩) n2 y13,.slice none 0 0]∧Bx3 wx g15 48 (.int .i64 (k:Int)) (.int .i64 (st:Int)) (.int .i64 (m:Int)))
        case first=>
         clear hk63 hltI
         cases hb:facB n0 cl
         ·have h3:hv=3:=by rw[HHV.out,hb];rfl
          have hvb:(hv==4)=false:=by rw[h3];rfl
          have HC:=Lib.hid (HG.out hb k (by have h1:=HFO.out.2.2 hb;have:=HLT.out;omega))
          have HKN:Hid (k < n0):=Lib.hid (by have h1:=HFO.out.2.2 hb;have:=HLT.out;omega)
          have H3:=Lib.hid h3
          clear h3;go_wp2
          go_meet
          exact⟨1,1,Lib.hid ⟨by rw[H3.out];exact HC.out,by omega,by omega,by omega,by have:=HKN.out;have:=HN3.out;omega,fun i hi=>by have:=HKN.out;omega⟩,E0,hi1,hi2,hi3,p1,p3,p5,i12,i13,szs1,p6,p15⟩
         ·have h4:hv=4:=by rw[HHV.out,hb];rfl
          have hvb:(hv==4)=true:=by rw[h4];rfl
          have H4:=Lib.hid h4
          obtain⟨c2,c36,hp,hn2,hn1,r2⟩:=HFO.out.2.1 hb
          have HC:=Lib.hid ((HF.out hb).2 k (by have:=HLT.out;omega))
          have HP:=Lib.hid (And.intro hp (And.intro hn2 (And.intro hn1 (And.intro r2 c36))))
          have d1:=divT hn1
          have d2:(n0:Int) / (cl:Int)=(n1:Int):=by rw[hn1];rfl
          have d3:IntKind.i64.wrap ((n0:Int).tdiv (cl:Int))=(n1:Int):=by rw[d1,IntKind.wrap_i64];have:=HN3.out;omega
          have d4:IntKind.i64.wrap (n1:Int)=(n1:Int):=by rw[IntKind.wrap_i64];have:=HN3.out;omega
          have hv0:((cl:Int)==0)=false:=beq_eq_false_iff_ne.2 (by omega)
          have hv0a:¬ ((cl:Int)=0):=by omega
          have hv0b:¬ (cl=0):=by omega
          have z0:=p15.froz0
          have z1:=p15.froz1
          have z2:=p15.froz2
          clear h4 c2 c36 hp hn2 hn1 r2 hb
          have k1a:=p1.cell 0 (v:=.int .i64 lr) rfl
          have k1b:=p1.cell 1 (v:=.int .i64 ep) rfl
          have k1c:=p1.cell 2 (v:=.int .i64 d) rfl
          have k1d:=p1.cell 3 (v:=.int .i64 (K:Int)) rfl
          have k1e:=p1.cell 4 (v:=.int .i64 (T:Int)) rfl
          have k1f:=p1.cell 5 (v:=.int .i64 (cl:Int)) rfl
          have k1g:=p1.cell 6 (v:=.slice a0 n0 c0) rfl
          have k1h:=p1.cell 7 (v:=.slice a1 n1 c1) rfl
          have k1i:=p1.cell 8 (v:=.slice (some ⟨b_a2,o_a2,none⟩) n2 c2) rfl
          have k1j:=p1.cell 9 (v:=.slice a3 n0 c3) rfl
          obtain⟨k3a,k3b,k3c⟩:=p3.c3
          obtain⟨k5a,k5b,k5c,k5d⟩:=p5.c4
          obtain⟨k6a,k6b,k6c,k6d⟩:=p6.c4
          obtain⟨k15a,k15b,k15c⟩:=p15.c3
          go_wp2
          go_meet
          clear k1a k1b k1c k1d k1e k1f k1g k1h k1i k1j k3a k3b k3c k5a k5b k5c k5d k6a k6b k6c k6d k15a k15b k15c
          obtain⟨_,_,_,-,-,-,-,V9,hV9,hw,hq⟩:=Form.put3 ⟨_,p15,noU_three _ _ _,rfl⟩ (.int .i64 (k:Int)) (.int .i64 (cl:Int)) (.int .i64 (n1:Int)) (noU_three _ _ _)
          rw[← hV9]
          clear hV9 z0 z1 z2 d1 d2 d3 d4 hv0 hv0a hv0b
          have sHB1_p1:=HB1_p1.out
          have sHG3:=HG3.out
          have sHG5:=HG5.out
          have sHN3_5:=HN3_5.out
          have sHS6:=HS6.out
          have sHS15:=HS15.out
          exact⟨cl,n1,Lib.hid ⟨by rw[H4.out,HP.out.2.2.1];exact HC.out,by have:=HP.out;omega,by have:=HN3.out;omega,by have:=HP.out;omega,by have:=HLT.out;have:=HN3.out;omega,fun i hi=>by
           have h1:i*cl+cl≤n1*cl:=by rw[← Nat.succ_mul];exact Nat.mul_le_mul_right _ hi
           have h2:=HP.out
           have h3:=HLT.out
           omega⟩,(Ext.wr E0 hw (by omega)),(hi1.wr hw (by omega)),(hi2.wr hw (by omega)),(hi3.wr hw (by omega)),(p1.wr hw (by omega)),(p3.wr hw (by omega)),(p5.wr hw (by omega)),(i12.wr hw (by omega)),(i13.wr hw (by omega)),(Nat.le_trans szs1 hw.apart.size),(p6.wr hw (by omega)),hq⟩
        case rest=>
         clear E0 hi1 hi2 hi3 p1 p3 p5 i12 i13 szs1 p6 p15
         obtain⟨st,m,hkk,E0,hi1,hi2,hi3,p1,p3,p5,i12,i13,szs1,p6,p15⟩:=hcut
         have HNK:Hid (0≤atL xv1 k∧FarOk K (atL xv1 k) (mixR K sh (atL lv k) (sqM K ep lg k st m)) hv):=Lib.hid hkk.out.1
         have HJ:=Lib.hid hkk.out.2
         have hcl:0 < m∧m≤40:=⟨HJ.out.1,HJ.out.2.1⟩
         clear hkk
         have SQ:Hid (SmR 10 (sqM K ep lg k st m)):=Lib.hid (sqM_sm HQ.out.2.1 (fun i=>atL_i64 hi3.in64 i) HK.out (by omega) (by omega))
         have SX:Hid (SmR 41 (mixR K sh (atL lv k) (sqM K ep lg k st m))):=Lib.hid (mixR_sm HSI.out HM.out HK.out SQ.out)
         have HPOS:Hid (¬ atL xv1 k < 0):=Lib.hid (by have:=HNK.out.1;omega)
         have k1a:=p1.cell 0 (v:=.int .i64 lr) rfl
         have k1b:=p1.cell 1 (v:=.int .i64 ep) rfl
         have k1c:=p1.cell 2 (v:=.int .i64 d) rfl
         have k1d:=p1.cell 3 (v:=.int .i64 (K:Int)) rfl
         have k1e:=p1.cell 4 (v:=.int .i64 (T:Int)) rfl
         have k1f:=p1.cell 5 (v:=.int .i64 (cl:Int)) rfl
         have k1g:=p1.cell 6 (v:=.slice a0 n0 c0) rfl
         have k1h:=p1.cell 7 (v:=.slice a1 n1 c1) rfl
         have k1i:=p1.cell 8 (v:=.slice (some ⟨b_a2,o_a2,none⟩) n2 c2) rfl
         have k1j:=p1.cell 9 (v:=.slice a3 n0 c3) rfl
         obtain⟨k3a,k3b,k3c⟩:=p3.c3
         obtain⟨k5a,k5b,k5c,k5d⟩:=p5.c4
         obtain⟨k6a,k6b,k6c,k6d⟩:=p6.c4
         obtain⟨k15a,k15b,k15c⟩:=p15.c3
         go_upto_region 25 with (fail)
         clear k1a k1b k1c k1d k1e k1f k1g k1h k1i k1j k3a k3b k3c k5a k5b k5c k5d k6a k6b k6c k6d k15a k15b k15c;have ltp1:=p1.lt;have ltp3:=p3.lt;have ltp5:=p5.lt;have ltp6:=p6.lt;have ltp15:=p15.lt
         have ltszs1:=szs1
         have szw15:=Ext.size E0
         refine region_gs ((.one fun v _=>v=.pointer (some ⟨g6,2,none⟩)) ::
           (.one fun v _=>v=.slice (some ⟨b_x13,o_x13,none⟩) n2 y13) ::
           (.one fun v _=>v=.int .i64 (k:Int)) ::
           (.one fun v _=>v=.pointer (some ⟨b_x13,o_x13+k,none⟩)) ::
           (.one fun v _=>v=.int .i64 (atL xv1 k)) ::
           (.one fun v _=>v=.bool false) ::
           (.one fun v _=>v=.bool false) ::
           (.one fun v _=>v=.pointer (some ⟨g6,2,none⟩)) ::
           (.one fun v _=>v=.slice (some ⟨b_x13,o_x13,none⟩) n2 y13) ::
           (.one fun v _=>v=.int .i64 (k:Int)) ::
           (.one fun v _=>v=.pointer (some ⟨b_x13,o_x13+k,none⟩)) ::
           (.one fun v _=>v=.int .i64 (atL xv1 k)) ::
           (.one fun v _=>v=.int .i64 sh) ::
           (.one fun v _=>v=.int .i64 (K:Int)) ::
           (.one fun v _=>v=.pointer (some ⟨g5,2,none⟩)) ::
           (.one fun v _=>v=.slice (some ⟨b_a2,o_a2,none⟩) n2 c2) ::
           (.one fun v _=>v=.int .i64 (k:Int)) ::
           (.one fun v _=>v=.pointer (some ⟨b_a2,o_a2+k,none⟩)) ::
           (.one fun v _=>v=.int .i64 (atL lv k)) ::
           (.one fun v _=>v=.agg #[.int .i64 lr,.int .i64 ep,.int .i64 d]) ::
           (.one fun v _=>v=.int .i64 (K:Int)) ::
           (.one fun v _=>v=.pointer (some ⟨g5,3,none⟩)) ::
           (.one fun v _=>v=.slice a3 n0 c3) ::
           (.one fun v _=>v=.agg #[.int .i64 (k:Int),.int .i64 (st:Int),.int .i64 (m:Int)]) ::
           (.one fun v W=>Rw W v (sqM K ep lg k st m)) ::
           (.one fun v W=>Rw W v (mixR K sh (atL lv k) (sqM K ep lg k st m))) ::
           (.one fun v _=>v=.int .i64 (K:Int)) ::
           (.one fun v _=>v=.int .i64 hv) ::
           (.one fun v _=>v=.bool true) ::
           (.one fun v _=>v=.bool false) ::
           (.one fun v _=>v=.bool false) :: [])
          (fun W=>Ext w W∧Iw 0 w.heap.size W a1 n1 c1 (lm)∧Iw 0 w.heap.size W (some ⟨b_a2,o_a2,none⟩) n2 c2 (lv)∧Iw 0 w.heap.size W a3 n0 c3 (lg)∧BxA W w.heap.size 29 #[.int .i64 lr,.int .i64 ep,.int .i64 d,.int .i64 (K:Int),.int .i64 (T:Int),.int .i64 (cl:Int),.slice a0 n0 c0,.slice a1 n1 c1,.slice (some ⟨b_a2,o_a2,none⟩) n2 c2,.slice a3 n0 c3]∧Bx3 W g3 23 (.int .i64 lr) (.int .i64 ep) (.int .i64 d)∧BxA W g5 27 #[.slice a0 n0 c0,.slice a1 n1 c1,.slice (some ⟨b_a2,o_a2,none⟩) n2 c2,.slice a3 n0 c3]∧Iw Wc.heap.size hx1 W x12 n1 y12 (xm1)∧Iw Wc.heap.size hx1 W (some ⟨b_x13,o_x13,none⟩) n2 y13 (xv1)∧hx1≤W.heap.size∧BxA W g6 27 #[.slice x11 n0 y11,.slice x12 n1 y12,.slice (some ⟨b_x13,o_x13,none⟩) n2 y13,.slice none 0 0]∧Bx3 W g15 48 (.int .i64 (k:Int)) (.int .i64 (st:Int)) (.int .i64 (m:Int))∧wc.heap.size≤W.heap.size) ⟨Good.is _,Good.is _,Good.is _,Good.is _,Good.is _,Good.is _,Good.is _,Good.is _,Good.is _,Good.is _,Good.is _,Good.is _,Good.is _,Good.is _,Good.is _,Good.is _,Good.is _,Good.is _,Good.is _,Good.is _,Good.is _,Good.is _,Good.is _,Good.is _,Good.rat _,Good.rat _,Good.is _,Good.is _,Good.is _,Good.is _,Good.is _,trivial⟩
          ⟨E0,hi1,hi2,hi3,p1,p3,p5,i12,i13,szs1,p6,p15,Nat.le_refl _⟩ (A:=?A15) ?hA15 ?howe15 ?hfin15
         case hA15=>
          intro vs
          simp only[putAll,Act.put,sA,sZ,sS,Nat.zero_add,Nat.reduceAdd]
          exact rfl
         case howe15=>
          clear E0 hi1 hi2 hi3 p1 p3 p5 i12 i13 szs1 p6 p15
          intro hf
          refine⟨oP0 0 [] hf rfl,oE 1 [0] hf rfl ?_,oP0 2 [] hf rfl,oP2 3 [1,2] hf rfl,oE 4 [3] hf rfl ?_,oE 5 [4] hf rfl ?_,oP1 6 [5] hf rfl,oP1 7 [6] hf rfl,oE 8 [6,7] hf rfl ?_,oP1 9 [6] hf rfl,oP3 10 [6,8,9] hf rfl,oE 11 [6,10] hf rfl ?_,oP1 12 [6] hf rfl,oP1 13 [6] hf rfl,oP1 14 [6] hf rfl,oE 15 [6,14] hf rfl ?_,oP1 16 [6] hf rfl,oP3 17 [6,15,16] hf rfl,oE 18 [6,17] hf rfl ?_,oE 19 [6] hf rfl ?_,oP1 20 [6] hf rfl,oP1 21 [6] hf rfl,oE 22 [6,21] hf rfl ?_,oE 23 [6] hf rfl ?_,oE 24 [6,19,20,22,23] hf rfl ?_,oE 25 [6,12,13,18,24] hf rfl ?_,oP1 26 [6] hf rfl,oP1 27 [6] hf rfl,oE 28 [6,11,25,26,27] hf rfl ?_,oP2 29 [6,28] hf rfl,oP2 30 [6,29] hf rfl,trivial⟩
          all_goals intro vs W hS hp hx KO hKO
          all_goals simp only[Act.put,sA,sZ,sS]at hKO
          ·have e0:=isOf hp.1;simp only[e0]at hKO;have fc2:=BxA.cell (hS.2.2.2.2.2.2.2.2.2.2.1) 2 (v:=.slice (some ⟨b_x13,o_x13,none⟩) n2 y13) rfl;go_simp;exact hKO _ W (.refl W) rfl
          ·have e3:=isOf hp.1;simp only[e3]at hKO
           have fc:=Iw.cell (hS.2.2.2.2.2.2.2.2.1) (i:=k) (by omega)
           go_simp;exact hKO _ W (.refl W) rfl
          ·have e4:=isOf hp.1;simp only[e4]at hKO;go_simp;exact hKO _ W (Ext.refl W) (by first | rfl | exact congrArg Value.bool (decide_eq_false HPOS.out))
          ·have e6:=isOf hp.1;have e7:=isOf hp.2.1;simp only[e6,e7]at hKO;have fc2:=BxA.cell (hS.2.2.2.2.2.2.2.2.2.2.1) 2 (v:=.slice (some ⟨b_x13,o_x13,none⟩) n2 y13) rfl;go_simp;exact hKO _ W (.refl W) rfl
          ·have e6:=isOf hp.1;have e10:=isOf hp.2.1;simp only[e6,e10]at hKO
           have fc:=Iw.cell (hS.2.2.2.2.2.2.2.2.1) (i:=k) (by omega)
           go_simp;exact hKO _ W (.refl W) rfl
          ·have e6:=isOf hp.1;have e14:=isOf hp.2.1;simp only[e6,e14]at hKO;have fc2:=BxA.cell (hS.2.2.2.2.2.2.1) 2 (v:=.slice (some ⟨b_a2,o_a2,none⟩) n2 c2) rfl;go_simp;exact hKO _ W (.refl W) rfl
          ·have e6:=isOf hp.1;have e17:=isOf hp.2.1;simp only[e6,e17]at hKO
           have fc:=Iw.cell (hS.2.2.1) (i:=k) (by omega)
           go_simp;exact hKO _ W (.refl W) rfl
          ·have e6:=isOf hp.1;simp only[e6]at hKO;have fc0:=hS.2.2.2.2.2.1.cell0;have fc1:=hS.2.2.2.2.2.1.cell1;have fc2:=hS.2.2.2.2.2.1.cell2;go_simp;exact hKO _ W (.refl W) rfl
          ·have e6:=isOf hp.1;have e21:=isOf hp.2.1;simp only[e6,e21]at hKO;have fc3:=BxA.cell (hS.2.2.2.2.2.2.1) 3 (v:=.slice a3 n0 c3) rfl;go_simp;exact hKO _ W (.refl W) rfl
          ·have e6:=isOf hp.1;simp only[e6]at hKO;have fc0:=hS.2.2.2.2.2.2.2.2.2.2.2.1.cell0;have fc1:=hS.2.2.2.2.2.2.2.2.2.2.2.1.cell1;have fc2:=hS.2.2.2.2.2.2.2.2.2.2.2.1.cell2;go_simp;exact hKO _ W (.refl W) rfl
          ·have e6:=isOf hp.1;have e19:=isOf hp.2.1;have e20:=isOf hp.2.2.1;have e22:=isOf hp.2.2.2.1;have e23:=isOf hp.2.2.2.2.1;simp only[e6,e19,e20,e22,e23]at hKO;go_simp
           refine(Tryz.squares19 lr ep d K k st m HK.out HQ.out.2.1 HJ.out.1 HJ.out.2.1 HJ.out.2.2.1 HJ.out.2.2.2.1 HJ.out.2.2.2.2 (hS.2.2.2.1.mono (Nat.le_refl _) (Ext.size hS.1))).mono ?_
           rintro e W1 ⟨v,rfl,hv,hE⟩
           exact hKO _ W1 hE hv
          ·have e6:=isOf hp.1;have e12:=isOf hp.2.1;have e13:=isOf hp.2.2.1;have e18:=isOf hp.2.2.2.1;have q24:=hp.2.2.2.2.1;simp only[e6,e12,e13,e18]at hKO;go_simp
           refine(Tryz.mixed19 sh (atL lv k) K HK.out HSI.out HM.out q24 SQ.out).mono ?_
           rintro e W1 ⟨v,rfl,hv,hE⟩
           exact hKO _ W1 hE hv
          ·have e6:=isOf hp.1;have e11:=isOf hp.2.1;have q25:=hp.2.2.1;have e26:=isOf hp.2.2.2.1;have e27:=isOf hp.2.2.2.2.1;simp only[e6,e11,e26,e27]at hKO;go_simp
           refine(Tryz.far19 (atL xv1 k) K HK.out HX.out.1 HX.out.2 q25 SX.out hv (by have:=H34.out;omega) (by have:=H34.out;omega) HNK.out.2).mono ?_
           rintro e W1 ⟨rfl,hE⟩
           exact hKO _ W1 hE rfl
         intro vs W15 hS hp
         clear ltszs1 szw15 E0 hi1 hi2 hi3 p1 p3 p5 i12 i13 szs1 p6 p15
         obtain⟨E0,hi1,hi2,hi3,p1,p3,p5,i12,i13,szs1,p6,p15,sz15⟩:=hS
         obtain⟨h15_0,h15_1,h15_2,h15_3,h15_4,h15_5,h15_6,h15_7,h15_8,h15_9,h15_10,h15_11,h15_12,h15_13,h15_14,h15_15,h15_16,h15_17,h15_18,h15_19,h15_20,h15_21,h15_22,h15_23,h15_24,h15_25,h15_26,h15_27,h15_28,h15_29,h15_30,-⟩:=hp
         simp only[isOf h15_0,isOf h15_1,isOf h15_2,isOf h15_3,isOf h15_4,isOf h15_5,isOf h15_6,isOf h15_7,isOf h15_8,isOf h15_9,isOf h15_10,isOf h15_11,isOf h15_12,isOf h15_13,isOf h15_14,isOf h15_15,isOf h15_16,isOf h15_17,isOf h15_18,isOf h15_19,isOf h15_20,isOf h15_21,isOf h15_22,isOf h15_23,isOf h15_26,isOf h15_27,isOf h15_28,isOf h15_29,isOf h15_30]
         replace h15_24:Rw W15 (vs 24) (sqM K ep lg k st m):=h15_24
         generalize vs 24=u15_24 at h15_24 ⊢
         replace h15_25:Rw W15 (vs 25) (mixR K sh (atL lv k) (sqM K ep lg k st m)):=h15_25
         generalize vs 25=u15_25 at h15_25 ⊢
         clear h15_0 h15_1 h15_2 h15_3 h15_4 h15_5 h15_6 h15_7 h15_8 h15_9 h15_10 h15_11 h15_12 h15_13 h15_14 h15_15 h15_16 h15_17 h15_18 h15_19 h15_20 h15_21 h15_22 h15_23 h15_26 h15_27 h15_28 h15_29 h15_30;go_wp2
         go_roundw
         case rel=>exact⟨k+1,by go_num,HLT.out,E0,hi1,hi2,hi3,p1,p3,p5,i12,i13,szs1,p6⟩
         case measure=>simp[intOf];have:=HLT.out;omega
       ·have hge:¬ (k:Int) < (n2:Int):=by omega
        clear hk hlt
        have k1a:=p1.cell 0 (v:=.int .i64 lr) rfl
        have k1b:=p1.cell 1 (v:=.int .i64 ep) rfl
        have k1c:=p1.cell 2 (v:=.int .i64 d) rfl
        have k1d:=p1.cell 3 (v:=.int .i64 (K:Int)) rfl
        have k1e:=p1.cell 4 (v:=.int .i64 (T:Int)) rfl
        have k1f:=p1.cell 5 (v:=.int .i64 (cl:Int)) rfl
        have k1g:=p1.cell 6 (v:=.slice a0 n0 c0) rfl
        have k1h:=p1.cell 7 (v:=.slice a1 n1 c1) rfl
        have k1i:=p1.cell 8 (v:=.slice a2 n2 c2) rfl
        have k1j:=p1.cell 9 (v:=.slice a3 n0 c3) rfl
        obtain⟨k3a,k3b,k3c⟩:=p3.c3
        obtain⟨k5a,k5b,k5c,k5d⟩:=p5.c4
        obtain⟨k6a,k6b,k6c,k6d⟩:=p6.c4
        go_wp2_with fail
        clear k1a k1b k1c k1d k1e k1f k1g k1h k1i k1j k3a k3b k3c k5a k5b k5c k5d k6a k6b k6c k6d
        refine(Tryz.aliveL _).mono ?_
        rintro e We ⟨rfl,hE⟩
        replace E0:=(Ext.trans E0 hE);replace hi1:=(hi1.ext hE);replace hi2:=(hi2.ext hE);replace hi3:=(hi3.ext hE);replace p1:=(p1.ext hE);replace p3:=(p3.ext hE);replace p5:=(p5.ext hE)
        replace i12:=(i12.ext hE)
        replace i13:=(i13.ext hE)
        replace szs1:=(Nat.le_trans szs1 (Ext.size hE))
        replace p6:=(p6.ext hE);clear hE
        have k1a:=p1.cell 0 (v:=.int .i64 lr) rfl
        have k1b:=p1.cell 1 (v:=.int .i64 ep) rfl
        have k1c:=p1.cell 2 (v:=.int .i64 d) rfl
        have k1d:=p1.cell 3 (v:=.int .i64 (K:Int)) rfl
        have k1e:=p1.cell 4 (v:=.int .i64 (T:Int)) rfl
        have k1f:=p1.cell 5 (v:=.int .i64 (cl:Int)) rfl
        have k1g:=p1.cell 6 (v:=.slice a0 n0 c0) rfl
        have k1h:=p1.cell 7 (v:=.slice a1 n1 c1) rfl
        have k1i:=p1.cell 8 (v:=.slice a2 n2 c2) rfl
        have k1j:=p1.cell 9 (v:=.slice a3 n0 c3) rfl
        obtain⟨k3a,k3b,k3c⟩:=p3.c3
        obtain⟨k5a,k5b,k5c,k5d⟩:=p5.c4
        obtain⟨k6a,k6b,k6c,k6d⟩:=p6.c4
        go_wp2;go_ret
        exact⟨rfl,E0⟩
  ·have k1b:(E1 != 0)=true:=bne_iff_ne.2 k1
   obtain⟨r1,r2,r3⟩:=HNO.out k1
   have HDD:=Lib.hid (And.intro r1 (And.intro r2 r3))
   clear r1 r2 r3 k1
   have k1a:=p1.cell 0 (v:=.int .i64 lr) rfl
   have k1b:=p1.cell 1 (v:=.int .i64 ep) rfl
   have k1c:=p1.cell 2 (v:=.int .i64 d) rfl
   have k1d:=p1.cell 3 (v:=.int .i64 f) rfl
   have k1e:=p1.cell 4 (v:=.int .i64 tt) rfl
   have k1f:=p1.cell 5 (v:=.int .i64 c) rfl
   have k1g:=p1.cell 6 (v:=.slice a0 n0 c0) rfl
   have k1h:=p1.cell 7 (v:=.slice a1 n1 c1) rfl
   have k1i:=p1.cell 8 (v:=.slice a2 n2 c2) rfl
   have k1j:=p1.cell 9 (v:=.slice a3 n3 c3) rfl
   obtain⟨k3a,k3b,k3c⟩:=p3.c3
   obtain⟨k5a,k5b,k5c,k5d⟩:=p5.c4
   obtain⟨k6a,k6b,k6c,k6d⟩:=p6.c4
   go_wp2_with fail
   clear k1a k1b k1c k1d k1e k1f k1g k1h k1i k1j k3a k3b k3c k5a k5b k5c k5d k6a k6b k6c k6d
   refine(Tryz.aliveL _).mono ?_
   rintro e We ⟨rfl,hE⟩
   replace E0:=(Ext.trans E0 hE);replace hi0:=(hi0.ext hE);replace hi1:=(hi1.ext hE);replace hi2:=(hi2.ext hE);replace hi3:=(hi3.ext hE);replace p1:=(p1.ext hE);replace p3:=(p3.ext hE);replace p5:=(p5.ext hE)
   replace i11:=(i11.ext hE)
   replace i12:=(i12.ext hE)
   replace i13:=(i13.ext hE)
   replace szs1:=(Nat.le_trans szs1 (Ext.size hE))
   replace p6:=(p6.ext hE);clear hE
   have k1a:=p1.cell 0 (v:=.int .i64 lr) rfl
   have k1b:=p1.cell 1 (v:=.int .i64 ep) rfl
   have k1c:=p1.cell 2 (v:=.int .i64 d) rfl
   have k1d:=p1.cell 3 (v:=.int .i64 f) rfl
   have k1e:=p1.cell 4 (v:=.int .i64 tt) rfl
   have k1f:=p1.cell 5 (v:=.int .i64 c) rfl
   have k1g:=p1.cell 6 (v:=.slice a0 n0 c0) rfl
   have k1h:=p1.cell 7 (v:=.slice a1 n1 c1) rfl
   have k1i:=p1.cell 8 (v:=.slice a2 n2 c2) rfl
   have k1j:=p1.cell 9 (v:=.slice a3 n3 c3) rfl
   obtain⟨k3a,k3b,k3c⟩:=p3.c3
   obtain⟨k5a,k5b,k5c,k5d⟩:=p5.c4
   obtain⟨k6a,k6b,k6c,k6d⟩:=p6.c4
   go_wp2_with fail
   clear k1a k1b k1c k1d k1e k1f k1g k1h k1i k1j k3a k3b k3c k5a k5b k5c k5d k6a k6b k6c k6d
   refine(Tryz.refSame17 i11 (Iw.nil 0 0 _) i12 (Iw.nil 0 0 _) i13 (Iw.nil 0 0 _) (Iw.nil 0 0 _) (Iw.nil 0 0 _)).mono ?_
   rintro e Wf ⟨rfl,hE⟩
   rw[HDD.out.1,HDD.out.2.1,HDD.out.2.2]
   replace E0:=(Ext.trans E0 hE);replace hi0:=(hi0.ext hE);replace hi1:=(hi1.ext hE);replace hi2:=(hi2.ext hE);replace hi3:=(hi3.ext hE);replace p1:=(p1.ext hE);replace p3:=(p3.ext hE);replace p5:=(p5.ext hE)
   replace i11:=(i11.ext hE)
   replace i12:=(i12.ext hE)
   replace i13:=(i13.ext hE)
   replace szs1:=(Nat.le_trans szs1 (Ext.size hE))
   replace p6:=(p6.ext hE);clear hE
   have k1a:=p1.cell 0 (v:=.int .i64 lr) rfl
   have k1b:=p1.cell 1 (v:=.int .i64 ep) rfl
   have k1c:=p1.cell 2 (v:=.int .i64 d) rfl
   have k1d:=p1.cell 3 (v:=.int .i64 f) rfl
   have k1e:=p1.cell 4 (v:=.int .i64 tt) rfl
   have k1f:=p1.cell 5 (v:=.int .i64 c) rfl
   have k1g:=p1.cell 6 (v:=.slice a0 n0 c0) rfl
   have k1h:=p1.cell 7 (v:=.slice a1 n1 c1) rfl
   have k1i:=p1.cell 8 (v:=.slice a2 n2 c2) rfl
   have k1j:=p1.cell 9 (v:=.slice a3 n3 c3) rfl
   obtain⟨k3a,k3b,k3c⟩:=p3.c3
   obtain⟨k5a,k5b,k5c,k5d⟩:=p5.c4
   obtain⟨k6a,k6b,k6c,k6d⟩:=p6.c4
   go_wp2;go_ret
   exact⟨rfl,E0⟩
 ·rw[decide_eq_false hf]
  clear hf
  have k1a:=p1.cell 0 (v:=.int .i64 lr) rfl
  have k1b:=p1.cell 1 (v:=.int .i64 ep) rfl
  have k1c:=p1.cell 2 (v:=.int .i64 d) rfl
  have k1d:=p1.cell 3 (v:=.int .i64 f) rfl
  have k1e:=p1.cell 4 (v:=.int .i64 tt) rfl
  have k1f:=p1.cell 5 (v:=.int .i64 c) rfl
  have k1g:=p1.cell 6 (v:=.slice a0 n0 c0) rfl
  have k1h:=p1.cell 7 (v:=.slice a1 n1 c1) rfl
  have k1i:=p1.cell 8 (v:=.slice a2 n2 c2) rfl
  have k1j:=p1.cell 9 (v:=.slice a3 n3 c3) rfl
  obtain⟨k3a,k3b,k3c⟩:=p3.c3
  obtain⟨k5a,k5b,k5c,k5d⟩:=p5.c4
  go_wp2_with fail
  clear k1a k1b k1c k1d k1e k1f k1g k1h k1i k1j k3a k3b k3c k5a k5b k5c k5d
  refine(Tryz.aliveL _).mono ?_
  rintro e We ⟨rfl,hE⟩
  replace E0:=(Ext.trans E0 hE);replace hi0:=(hi0.ext hE);replace hi1:=(hi1.ext hE);replace hi2:=(hi2.ext hE);replace hi3:=(hi3.ext hE);replace p1:=(p1.ext hE);replace p3:=(p3.ext hE);replace p5:=(p5.ext hE);clear hE
  have k1a:=p1.cell 0 (v:=.int .i64 lr) rfl
  have k1b:=p1.cell 1 (v:=.int .i64 ep) rfl
  have k1c:=p1.cell 2 (v:=.int .i64 d) rfl
  have k1d:=p1.cell 3 (v:=.int .i64 f) rfl
  have k1e:=p1.cell 4 (v:=.int .i64 tt) rfl
  have k1f:=p1.cell 5 (v:=.int .i64 c) rfl
  have k1g:=p1.cell 6 (v:=.slice a0 n0 c0) rfl
  have k1h:=p1.cell 7 (v:=.slice a1 n1 c1) rfl
  have k1i:=p1.cell 8 (v:=.slice a2 n2 c2) rfl
  have k1j:=p1.cell 9 (v:=.slice a3 n3 c3) rfl
  obtain⟨k3a,k3b,k3c⟩:=p3.c3
  obtain⟨k5a,k5b,k5c,k5d⟩:=p5.c4
  go_wp2;go_ret
  exact⟨rfl,E0⟩
end Go.Rt
