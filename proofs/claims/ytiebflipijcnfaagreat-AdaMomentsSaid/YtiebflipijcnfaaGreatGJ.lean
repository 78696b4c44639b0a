/-
  The reference's fractions: over, Neg, Cmp, Abs.
  The reference's fractions: Abs, Same, Of, Frac.
  The reference's fractions: Frac, Add, Sub.
  The reference's integers: Right, Few.
-/
import Derived.Test.YtiebflipijcnfaaGreatGY
namespace Go.Rt
open Go.RowKit Go.Proofs
theorem Bx3.off3 {w:World} {b b':Nat} {t:TypeId} {x0 y0 z0:Value} (h:Bx3 w b t x0 y0 z0) (hne:b≠b') (x y z:Value):Bx3 (((w.setCell ⟨b',0,none⟩ x).setCell ⟨b',1,none⟩ y).setCell ⟨b',2,none⟩ z) b t x0 y0 z0:=(off_set3 w b' x y z b hne).trans h
theorem Bx2.off3 {w:World} {b b':Nat} {t:TypeId} {x0 y0:Value} (h:Bx2 w b t x0 y0) (hne:b≠b') (x y z:Value):Bx2 (((w.setCell ⟨b',0,none⟩ x).setCell ⟨b',1,none⟩ y).setCell ⟨b',2,none⟩ z) b t x0 y0:=(off_set3 w b' x y z b hne).trans h
theorem Zw.nat {w:World} {a:Option Addr} {n c N:Nat} (h:Nw w (.slice a n c) N):Zw w (.agg #[.bool false,.slice a n c]) (N:Int):=⟨false,a,n,c,rfl,Lib.hid (by simp),by simpa using h⟩
theorem Rw.zed {w:World} {b:Bool} {a:Option Addr} {n c:Nat} {z:Int} (hb:Hid (b=decide (z < 0))) (h:Nw w (.slice a n c) z.natAbs):Zw w (.agg #[.bool b,.slice a n c]) z:=⟨b,a,n,c,rfl,hb,h⟩
set_option maxHeartbeats 1000000 in
theorem Tryz.refROver {v v2:Value} {z:Int} {N L1 L2:Nat} {w:World} (h:Zw w v z) (h2:Nw w v2 N) (s1:Sm L1 z.natAbs) (s2:Sm L2 N) (hL:L1+L2≤10000000):
    Calls Tryz.prog 62 #[v,v2] w fun e w'=>∃ v',e=.returned v'∧Zw w' v' (z*(N:Int))∧Ext w w':=by
  obtain⟨b1,a1,n1,c1,rfl,hb1,g1⟩:=h
  obtain⟨a,n,c,rfl⟩:=h2.slice
  obtain⟨W0,hW0,E0,p1,p2⟩:=boxed2 w 43 #[.bool b1,.slice a1 n1 c1] 43 #[.bool false,.slice none 0 0]
  replace p1:=p1.b2
  replace p2:=p2.b2
  have k1a:=p1.cell0
  have k1b:=p1.cell1
  have k2a:=p2.cell0
  have k2b:=p2.cell1
  go_enter Tryz.func62,Tryz.ntmps62
  go_wp2_with fail
  rw[← hW0]
  refine(Tryz.refZMul (Rw.zed hb1 (g1.ext E0)) (Zw.nat (h2.ext E0)) s1 (by simpa using s2) hL).mono ?_
  rintro e w1 ⟨v',rfl,hz,hE⟩
  clear hW0 hb1 k1a k1b k2a k2b
  replace p2:=p2.ext hE
  replace E0:=E0.trans hE
  have hz':=hz
  obtain⟨b3,a3,n3,c3,rfl,-,hn3⟩:=hz
  have k2a:=p2.cell0
  have k2b:=p2.cell1
  have fp2_0:=p2.froz0
  have fp2_1:=p2.froz1
  go_wp2
  have q:=p2.set (.bool b3) (.slice a3 n3 c3)
  have e0:=q.cell0
  have e1:=q.cell1
  exact bodyPost_ret (v:=.agg #[.bool b3,.slice a3 n3 c3]) (by simp[results,Tryz.results62,go_sem,e0,e1]) rfl ⟨_,rfl,hz'.off p2 (noU2 _ _ _ _) (off_set2 _ _ _ _),E0.set2 (by omega) _ _⟩
set_option maxRecDepth 100000 in
set_option maxHeartbeats 1000000 in
theorem Tryz.refRNeg {v:Value} {x:Rat} {w:World} (h:Rw w v x):
    Calls Tryz.prog 59 #[v] w fun e w'=>∃ v',e=.returned v'∧Rw w' v' (-x)∧Ext w w':=by
  obtain⟨b1,a1,n1,c1,d1,m1,o1,rfl,hb1,g1,h1⟩:=h
  obtain⟨W0,hW0,E0,p1,p2⟩:=boxed2 w 45 #[.bool b1,.slice a1 n1 c1,.slice d1 m1 o1] 45 #[.bool false,.slice none 0 0,.slice none 0 0]
  replace p1:=p1.b3
  replace p2:=p2.b3
  have k1a:=p1.cell0
  have k1b:=p1.cell1
  have k1c:=p1.cell2
  have k2a:=p2.froz0
  have k2b:=p2.froz1
  have k2c:=p2.froz2
  have hT:=Ext.drew1 W0
  go_enter Tryz.func59,Tryz.ntmps59
  go_wp2_with fail
  rw[← hW0]
  clear hW0
  go_region_held3 (fun W=>W.cell? ⟨w.heap.size,0,none⟩=some (.bool b1)∧W.cell? ⟨w.heap.size,1,none⟩=some (.slice a1 n1 c1)∧W.cell? ⟨w.heap.size,2,none⟩=some (.slice d1 m1 o1)∧W.frozen? ⟨w.heap.size+1,0,none⟩=false∧W.frozen? ⟨w.heap.size+1,1,none⟩=false∧W.frozen? ⟨w.heap.size+1,2,none⟩=false)
    (first | exact⟨k1a,k1b,k1c,k2a,k2b,k2c⟩ | exact⟨(q1.off3 (by omega) _ _ _).cell0,(q1.off3 (by omega) _ _ _).cell1,(q1.off3 (by omega) _ _ _).cell2,(q2.set _ _ _).froz0,(q2.set _ _ _).froz1,(q2.set _ _ _).froz2⟩ | exact⟨q1.cell0,q1.cell1,q1.cell2,q2.froz0,q2.froz1,q2.froz2⟩)
    (first
      | (go_at_call 94;refine(Tryz.refNeg ((Rw.zed hb1 (g1.ext E0)).ext hT)).mono ?_;rintro e w1 ⟨vm,rfl,hz,hE⟩;have hz':=hz;obtain⟨b3,a3,n3,c3,rfl,hb3,hn3⟩:=hz;have hT2:=hT.trans hE;have q1:=p1.ext hT2;have q2:=p2.ext hT2;have r0:=q2.cell0;have r1:=q2.cell1;have r2:=q2.cell2))
  have hT9:=E0.trans hT2
  clear k1a k1b k1c k2a k2b k2c hE hT hT2 r0 r1 r2 q1
  go_wp2
  have q:=q2.set (.bool b3) (.slice a3 n3 c3) (.slice d1 m1 o1)
  have e0:=q.cell0
  have e1:=q.cell1
  have e2:=q.cell2
  exact bodyPost_ret (v:=.agg #[.bool b3,.slice a3 n3 c3,.slice d1 m1 o1]) (by simp[results,Tryz.results59,go_sem,e0,e1,e2]) rfl ⟨_,rfl,Rw.off (w:=w1) ⟨b3,a3,n3,c3,d1,m1,o1,rfl,hb3,hn3,h1.ext hT9⟩ q2 (noU3 _ _ _ _ _ _ _) (off_set3 _ _ _ _ _),hT9.set3 (by omega) _ _ _⟩
theorem cmpI_mul {x y:Rat}:cmpI (x.num*(y.den:Int)) (y.num*(x.den:Int))=if x < y then -1 else if y < x then 1 else 0:=by
  unfold cmpI
  simp only[Rat.lt_iff]
set_option maxRecDepth 100000 in
set_option maxHeartbeats 1000000 in
theorem Tryz.refRCmp {v1 v2:Value} {x y:Rat} {L:Nat} {w:World} (h1:Rw w v1 x) (h2:Rw w v2 y) (s1:Sm L x.num.natAbs) (s2:Sm L x.den) (s3:Sm L y.num.natAbs) (s4:Sm L y.den) (hL:L+L≤10000000):
    Calls Tryz.prog 29 #[v1,v2] w fun e w'=>e=.returned (.int .i64 (if x < y then -1 else if y < x then 1 else 0))∧Ext w w':=by
  rw[← cmpI_mul]
  obtain⟨b1,a1,n1,c1,d1,m1,o1,rfl,hb1,g1,h1⟩:=h1
  obtain⟨b2,a2,n2,c2,d2,m2,o2,rfl,hb2,g2,h2⟩:=h2
  obtain⟨X,hX⟩:∃ X,X=x.num*(y.den:Int):=⟨_,rfl⟩
  obtain⟨Y,hY⟩:∃ Y,Y=y.num*(x.den:Int):=⟨_,rfl⟩
  have HX:=Lib.hid hX
  have HY:=Lib.hid hY
  rw[← hX,← hY]
  clear hX hY
  obtain⟨W0,hW0,E0,p1,p2⟩:=boxed2 w 45 #[.bool b1,.slice a1 n1 c1,.slice d1 m1 o1] 45 #[.bool b2,.slice a2 n2 c2,.slice d2 m2 o2]
  replace p1:=p1.b3
  replace p2:=p2.b3
  have k1a:=p1.cell0
  have k1b:=p1.cell1
  have k1c:=p1.cell2
  have k2a:=p2.cell0
  have k2b:=p2.cell1
  have k2c:=p2.cell2
  have hT:=Ext.drew1 W0
  have z1:=Rw.zed hb1 (g1.ext (E0.trans hT))
  have z2:=Rw.zed hb2 (g2.ext (E0.trans hT))
  replace h1:=h1.ext (E0.trans hT)
  replace h2:=h2.ext (E0.trans hT)
  replace p1:=p1.ext hT
  replace p2:=p2.ext hT
  clear hb1 hb2 g1 g2
  go_enter Tryz.func29,Tryz.ntmps29
  go_wp2_with fail
  rw[← hW0]
  clear hW0
  go_region_held3 (fun W=>W.cell? ⟨w.heap.size,0,none⟩=some (.bool b1)∧W.cell? ⟨w.heap.size,1,none⟩=some (.slice a1 n1 c1)∧W.cell? ⟨w.heap.size,2,none⟩=some (.slice d1 m1 o1)∧W.cell? ⟨w.heap.size+1,0,none⟩=some (.bool b2)∧W.cell? ⟨w.heap.size+1,1,none⟩=some (.slice a2 n2 c2)∧W.cell? ⟨w.heap.size+1,2,none⟩=some (.slice d2 m2 o2))
    (first | exact⟨k1a,k1b,k1c,k2a,k2b,k2c⟩ | exact⟨p1.cell0,p1.cell1,p1.cell2,p2.cell0,p2.cell1,p2.cell2⟩)
    (first
      | (go_at_call 62;refine(Tryz.refROver z1 h2 s1 s4 hL).mono ?_;rintro e wA ⟨vA,rfl,hA,hE⟩;rw[← HX.out]at hA;replace hT:=hT.trans hE;replace p1:=p1.ext hE;replace p2:=p2.ext hE;(try replace z2:=z2.ext hE);(try replace h1:=h1.ext hE);(try replace hB:=hB.ext hE))
      | (go_at_call 62;refine(Tryz.refROver z2 h1 s3 s2 hL).mono ?_;rintro e wB ⟨vB,rfl,hB,hE⟩;rw[← HY.out]at hB;replace hT:=hT.trans hE;replace p1:=p1.ext hE;replace p2:=p2.ext hE;(try replace z1:=z1.ext hE);(try replace h2:=h2.ext hE);(try replace hA:=hA.ext hE))
      | (go_at_call 61;refine(Tryz.refZCmp hA hB).mono ?_;rintro e wC ⟨rfl,hE⟩;replace hT:=hT.trans hE;replace p1:=p1.ext hE;replace p2:=p2.ext hE))
  all_goals clear k1a k1b k1c k2a k2b k2c
  all_goals go_wp2
  all_goals go_ret
  all_goals exact⟨ret_i rfl,E0.trans hT⟩
end Go.Rt
namespace Go.Rt
open Go.RowKit Go.Proofs
set_option maxHeartbeats 1000000 in
theorem Tryz.refRAbs {v:Value} {x:Rat} {w:World} (h:Rw w v x):
  Calls Tryz.prog 26 #[v] w fun e w'=>∃ v',e=.returned v'∧Rw w' v' (Rat.abs x)∧Ext w w':=by
 have HA:Hid (false=decide ((Rat.abs x).num < 0)∧(Rat.abs x).num.natAbs=x.num.natAbs∧(Rat.abs x).den=x.den):=Lib.hid (by
  unfold Rat.abs
  split
  ·rename_i h
   have:=Rat.num_nonneg.2 h
   exact⟨(decide_eq_false (by omega)).symm,rfl,rfl⟩
  ·rename_i h
   have:=mt Rat.num_nonneg.1 h
   rw[Rat.neg_num,Rat.neg_den]
   exact⟨(decide_eq_false (by omega)).symm,by omega,rfl⟩)
 obtain⟨b1,a1,n1,c1,d1,m1,o1,rfl,hb1,g1,h1⟩:=h
 have E0:Ext w ((w.alloc (.cells #[.bool b1,.slice a1 n1 c1,.slice d1 m1 o1] 45)).alloc (.cells #[.bool false,.slice a1 n1 c1,.slice d1 m1 o1] 45)):=(Ext.alloc1 _ _).alloc _
 have q:Bx3 _ _ _ _ _ _:=Bx3.new (w.alloc (.cells #[.bool b1,.slice a1 n1 c1,.slice d1 m1 o1] 45)) 45 (.bool false) (.slice a1 n1 c1) (.slice d1 m1 o1)
 rw[World.size_alloc]at q
 go_enter Tryz.func26,Tryz.ntmps26
 go_wp2
 have e0:=q.cell0
 have e1:=q.cell1
 have e2:=q.cell2
 exact bodyPost_ret (v:=.agg #[.bool false,.slice a1 n1 c1,.slice d1 m1 o1]) (by simp[results,Tryz.results26,go_sem,e0,e1,e2]) rfl ⟨_,rfl,⟨false,a1,n1,c1,d1,m1,o1,rfl,Lib.hid HA.out.1,by rw[HA.out.2.1];exact(g1.ext E0),by rw[HA.out.2.2];exact(h1.ext E0)⟩,E0⟩
set_option maxHeartbeats 1000000 in
theorem Tryz.refZOf (n:Int) (w:World) (h1:-9223372036854775808≤n) (h2:n < 9223372036854775808):
  Calls Tryz.prog 66 #[.int .i64 n] w fun e w'=>∃ v',e=.returned v'∧Zw w' v' n∧Ext w w':=by
 by_cases hn:n < 0
 ·have h3:(n.natAbs:Int) = -(n+1)+1:=by omega
  have h4:n.natAbs < B64:=by unfold B64;omega
  have HB:Hid (sgn true n.natAbs=n):=Lib.hid (by unfold sgn;simp;omega)
  obtain⟨W0,hW0,E0,p1⟩:=boxed1 w 43 #[.bool false,.slice none 0 0]
  replace p1:=p1.b2
  have k1a:=p1.froz0
  have k1b:=p1.froz1
  go_enter Tryz.func66,Tryz.ntmps66
  go_wp2_with fail
  rw[← hW0]
  rw[← h3]
  refine(Tryz.refOf n.natAbs _ h4).mono ?_
  rintro e w1 ⟨v,rfl,hv,hE,-⟩
  replace p1:=p1.ext hE
  replace E0:=E0.trans hE
  go_wp2_with fail
  refine(Tryz.refMade hv true).mono ?_
  rintro e w2 ⟨v',rfl,hz,hE⟩
  rw[HB.out]at hz
  replace p1:=p1.ext hE
  replace E0:=E0.trans hE
  have hz':=hz
  obtain⟨b3,a3,n3,c3,rfl,hb3,hn3⟩:=hz
  clear k1a k1b
  have k1a:=p1.cell0
  have k1b:=p1.cell1
  have fp1_0:=p1.froz0
  have fp1_1:=p1.froz1
  go_wp2
  have q:=p1.set (.bool b3) (.slice a3 n3 c3)
  have e0:=q.cell0
  have e1:=q.cell1
  exact bodyPost_ret (v:=.agg #[.bool b3,.slice a3 n3 c3]) (by simp[results,Tryz.results66,go_sem,e0,e1]) rfl ⟨_,rfl,hz'.off p1 (noU2 _ _ _ _) (off_set2 _ _ _ _),E0.set2 (by omega) _ _⟩
 ·have h3:(n.natAbs:Int)=n:=by omega
  have h4:n.natAbs < B64:=by unfold B64;omega
  have HB:Hid (sgn false n.natAbs=n):=Lib.hid (by unfold sgn;simp;omega)
  obtain⟨W0,hW0,E0,p1⟩:=boxed1 w 43 #[.bool false,.slice none 0 0]
  replace p1:=p1.b2
  have k1a:=p1.froz0
  have k1b:=p1.froz1
  go_enter Tryz.func66,Tryz.ntmps66
  go_wp2_with fail
  rw[← hW0]
  rw[← h3]
  refine(Tryz.refOf n.natAbs _ h4).mono ?_
  rintro e w1 ⟨v,rfl,hv,hE,-⟩
  replace p1:=p1.ext hE
  replace E0:=E0.trans hE
  go_wp2_with fail
  refine(Tryz.refMade hv false).mono ?_
  rintro e w2 ⟨v',rfl,hz,hE⟩
  rw[HB.out]at hz
  replace p1:=p1.ext hE
  replace E0:=E0.trans hE
  have hz':=hz
  obtain⟨b3,a3,n3,c3,rfl,hb3,hn3⟩:=hz
  clear k1a k1b
  have k1a:=p1.cell0
  have k1b:=p1.cell1
  have fp1_0:=p1.froz0
  have fp1_1:=p1.froz1
  go_wp2
  have q:=p1.set (.bool b3) (.slice a3 n3 c3)
  have e0:=q.cell0
  have e1:=q.cell1
  exact bodyPost_ret (v:=.agg #[.bool b3,.slice a3 n3 c3]) (by simp[results,Tryz.results66,go_sem,e0,e1]) rfl ⟨_,rfl,hz'.off p1 (noU2 _ _ _ _) (off_set2 _ _ _ _),E0.set2 (by omega) _ _⟩
end Go.Rt
namespace Go.Rt
open Go.RowKit Go.Proofs
theorem Tryz.fieldZ (b:Bool) (a:Option Addr) (n c:Nat) (W:World):(Instr.field 43 (.agg #[.bool b,.slice a n c]) 1).run Tryz.prog W=.ok (.slice a n c) W:=by kernel_rfl
set_option maxRecDepth 100000 in
set_option maxHeartbeats 1000000 in
theorem Tryz.refRFrac (p q:Int) (w:World) (h1:-9223372036854775808≤p) (h2:p < 9223372036854775808) (h3:0 < q) (h4:q < 9223372036854775808):
    Calls Tryz.prog 33 #[.int .i64 p,.int .i64 q] w fun e w'=>∃ v',e=.returned v'∧Rw w' v' (mkRat p q.natAbs)∧Ext w w':=by
  have sp:Sm 1 p.natAbs:=Sm.one (by unfold B64;omega)
  have sq:Sm 1 q.natAbs:=Sm.one (by unfold B64;omega)
  have hq0:Hid (q.natAbs≠0):=Lib.hid (by omega)
  have H1:=Lib.hid h1
  have H2:=Lib.hid h2
  have H3:Hid (-9223372036854775808≤q):=Lib.hid (by omega)
  have H4:=Lib.hid h4
  have SP:=Lib.hid sp
  have SQ:=Lib.hid sq
  clear h1 h2 h3 h4 sp sq
  obtain⟨W0,hW0,E0,p1⟩:=boxed1 w 45 #[.bool false,.slice none 0 0,.slice none 0 0]
  replace p1:=p1.b3
  have k1a:=p1.froz0
  have k1b:=p1.froz1
  have k1c:=p1.froz2
  go_enter Tryz.func33,Tryz.ntmps33
  go_wp2_with fail
  rw[← hW0]
  refine(Tryz.refZOf p _ H1.out H2.out).mono ?_
  rintro e w1 ⟨v1,rfl,hz1,hE⟩
  replace p1:=p1.ext hE
  replace E0:=E0.trans hE
  clear hW0
  go_wp2_with fail
  refine(Tryz.refZOf q _ H3.out H4.out).mono ?_
  rintro e w2 ⟨v2,rfl,hz2,hE⟩
  replace p1:=p1.ext hE
  replace hz1:=hz1.ext hE
  replace E0:=E0.trans hE
  obtain⟨b2,a2,n2,c2,rfl,hb2,g2⟩:=hz2
  have hfd:=Tryz.fieldZ b2 a2 n2 c2
  go_wp2_with fail
  refine(Tryz.refRMake hz1 g2 SP.out SQ.out (by omega) hq0.out).mono ?_
  rintro e w3 ⟨v3,rfl,hr,hE⟩
  replace p1:=p1.ext hE
  replace E0:=E0.trans hE
  have hr':=hr
  obtain⟨b3,a3,n3,c3,d3,m3,o3,rfl,hb3,g3,k3⟩:=hr
  clear k1a k1b k1c
  have k1a:=p1.cell0
  have k1b:=p1.cell1
  have k1c:=p1.cell2
  have fp1_0:=p1.froz0
  have fp1_1:=p1.froz1
  have fp1_2:=p1.froz2
  have hlt:=p1.lt
  have hne:¬ (w.heap.size=w3.heap.size):=by omega
  go_wp2
  have q0:=p1.set (.bool b3) (.slice a3 n3 c3) (.slice d3 m3 o3)
  have hX:=Ext.alloc1 (((w3.setCell ⟨w.heap.size,0,none⟩ (.bool b3)).setCell ⟨w.heap.size,1,none⟩ (.slice a3 n3 c3)).setCell ⟨w.heap.size,2,none⟩ (.slice d3 m3 o3)) (.cells #[.bool b3,.slice a3 n3 c3,.slice d3 m3 o3] 45)
  have q:=q0.ext hX
  have e0:=q.cell0
  have e1:=q.cell1
  have e2:=q.cell2
  exact bodyPost_ret (v:=.agg #[.bool b3,.slice a3 n3 c3,.slice d3 m3 o3]) (by simp[results,Tryz.results33,go_sem,e0,e1,e2]) rfl ⟨_,rfl,(hr'.off p1 (noU3 _ _ _ _ _ _ _) (off_set3 _ _ _ _ _)).ext hX,(E0.set3 (by omega) _ _ _).trans hX⟩
end Go.Rt
namespace Go.Rt
open Go.RowKit Go.Proofs
end Go.Rt
