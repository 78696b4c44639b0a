/-
  Adafactor: the live question, by a step in general.
  Adafactor: a step's answer, told by letters.
-/
import Derived.Test.YtiebflipijcnfaaGreatAdaX
namespace Go.Rt
open Go Go.RowKit Go.Proofs
theorem mean_oneZ {x:Int} (hx:I64 x):meanZ [x]=x:=(List.cons.inj (show [meanZ [x]]=[x] from mean_oneV hx)).1
theorem out_one {f:Nat→Option Int} {x:Int} (h:f 0=some x):outL 1 (valF f)=[x]:=by
  show [valF f 0]=[x]
  rw[valF_some h]
theorem all_one {f:Nat→Option Int} {x:Int} (h:f 0=some x):allB 1 f=true:=by
  show ((f 0).isSome && true)=true
  rw[h];rfl
abbrev A16:AdaP:=⟨16,1,256⟩
theorem one_q:sqF 8 A16 [512] 0=some 1025:=by
  show (mulO 8 512 512).bind (fun x=>addO x 1)=some 1025
  rw[M1024];rfl
theorem one_p:pF 8 256 [9] [1025] 0=some 1025:=by
  show (mulO 8 (oneZ 8 - 256) 9).bind (fun x=>(mulO 8 256 1025).bind fun y=>addO x y)=some 1025
  rw[M0,M1025];rfl
theorem one_ql:qL 8 A16 [512]=[1025]:=out_one one_q
theorem one_sl:sL 8 256 1 [] [9] [1025]=[1025]:=by
  unfold sL
  rw[if_neg (by decide)]
  exact out_one one_p
theorem one_x:xF 8 [512] [1025] 0=some 256:=by
  show divO 8 512 (max ((rt (1025*2^8) 2:Nat):Int) 1)=some 256
  rw[R512];exact D256
theorem one_xl:xL 8 [512] [1025]=[256]:=out_one one_x
theorem one_y:yF 8 [256] 0=some 256:=M256
theorem one_top:topH 8 [256]=256:=by
  unfold topH
  rw[show yL 8 [256]=[256] from out_one one_y,mean_oneZ (by unfold I64;omega)]
  show ((rt (256*2^8) 2:Nat):Int)=256
  rw[R256];rfl
theorem one_u:uF 8 A16 [256] 0=some 256:=by
  unfold uF
  rw[one_top,if_neg (by decide)];rfl
theorem one_ul:uL 8 A16 [512] [1025]=[256]:=by
  unfold uL
  rw[one_xl];exact out_one one_u
theorem one_w:wF 8 A16 [256] [256] 0=some 240:=by
  show (mulO 8 16 256).bind (fun t=>subO 256 t)=some 240
  rw[M16];rfl
theorem one_sh:shareZ 1 8=256:=by
  show ((shareN 1 8:Nat):Int)=256
  rw[share_one];rfl
theorem one_ok:AdaOk A16 8 1 1 [256] [] [9] [512]:=by
  refine⟨by decide,by decide,by decide,rfl,by decide,by decide,?_⟩
  rw[one_sh]
  show adaB 8 A16 256 1 [256] [] [9] [512]=true
  unfold adaB momB upB
  rw[one_ql,one_sl,one_ul,one_xl,if_neg (by decide)]
  show (allB 1 (sqF 8 A16 [512]) && allB 1 (pF 8 256 [9] [1025]) && (allB 1 (xF 8 [512] [1025]) && allB 1 (yF 8 [256]) && allB 1 (uF 8 A16 [256])) && allB 1 (wF 8 A16 [256] [256]))=true
  rw[all_one one_q,all_one one_p,all_one one_x,all_one one_y,all_one one_u,all_one one_w];rfl
theorem one_W:stepW A16 8 1 1 [256] [] [9] [512]=[240]:=by
  unfold stepW
  rw[if_pos (adaE_zero.2 one_ok),one_sh]
  show adaW 8 A16 256 1 [256] [] [9] [512]=[240]
  unfold adaW
  rw[one_ql,one_sl,one_ul]
  exact out_one one_w
theorem one_M:stepM A16 8 1 1 [256] [] [9] [512]=[]:=by
  unfold stepM
  rw[if_pos (adaE_zero.2 one_ok),one_sh]
  show adaMo 8 A16 256 1 [] [512]=[]
  unfold adaMo mL
  rw[one_ql,if_neg (by decide)]
theorem one_V:stepV A16 8 1 1 [256] [] [9] [512]=[1025]:=by
  unfold stepV
  rw[if_pos (adaE_zero.2 one_ok),one_sh]
  show adaVo 8 A16 256 1 [9] [512]=[1025]
  unfold adaVo vL
  rw[one_ql,if_neg (by decide)]
  exact out_one one_p
theorem Tryz.adaStepL {bw ow cw bv ov cv bg og cg:Nat} {w:World} (hw:Iw 0 w.heap.size w (some ⟨bw,ow,none⟩) 1 cw [256]) (hv:Iw 0 w.heap.size w (some ⟨bv,ov,none⟩) 1 cv [9]) (hg:Iw 0 w.heap.size w (some ⟨bg,og,none⟩) 1 cg [512]):
    Calls Tryz.prog 6 #[.agg #[.int .i64 16,.int .i64 1,.int .i64 256],.int .i64 8,.agg #[.int .i64 1,.int .i64 1],.agg #[.slice (some ⟨bw,ow,none⟩) 1 cw,.slice none 0 0,.slice (some ⟨bv,ov,none⟩) 1 cv,.slice (some ⟨bg,og,none⟩) 1 cg]] w fun e w'=>∃ (b1 o1 c1:Nat) (a2:Option Addr) (c2 b3 o3 c3:Nat),e=.returned (.tuple #[.agg #[.slice (some ⟨b1,o1,none⟩) 1 c1,.slice a2 0 c2,.slice (some ⟨b3,o3,none⟩) 1 c3,.slice none 0 0],.int .i64 0])∧World.cell? w' ⟨b1,o1,none⟩=some (.int .i64 240)∧World.cell? w' ⟨b3,o3,none⟩=some (.int .i64 1025)∧Ext w w':=by
  refine(Tryz.adaStepIs 16 1 256 8 1 1 w (by unfold I64;omega) (by unfold I64;omega) (by unfold I64;omega) (by unfold I64;omega) (by omega) hw (Iw.nil 0 _ _) hv hg).mono ?_
  rintro e w' ⟨hE,a1,n1,c1,a2,n2,c2,a3,n3,c3,he,h1,h2,h3⟩
  rw[adaE_zero.2 one_ok]at he
  rw[one_W]at h1
  rw[one_M]at h2
  rw[one_V]at h3
  obtain rfl:1=n1:=h1.len
  obtain rfl:0=n2:=h2.len
  obtain rfl:1=n3:=h3.len
  obtain⟨b1,o1,rfl,-,-⟩:=h1.some (by omega)
  obtain⟨b3,o3,rfl,-,-⟩:=h3.some (by omega)
  exact⟨b1,o1,c1,a2,c2,b3,o3,c3,he,h1.cell (i:=0) (by omega),h3.cell (i:=0) (by omega),hE⟩
theorem Tryz.adaBadL (w:World):
    Calls Tryz.prog 6 #[.agg #[.int .i64 16,.int .i64 1,.int .i64 256],.int .i64 8,.agg #[.int .i64 0,.int .i64 1],.agg #[.slice none 0 0,.slice none 0 0,.slice none 0 0,.slice none 0 0]] w fun e w'=>∃ (a1:Option Addr) (n1 c1:Nat) (a2:Option Addr) (n2 c2:Nat) (a3:Option Addr) (n3 c3:Nat),e=.returned (.tuple #[.agg #[.slice a1 n1 c1,.slice a2 n2 c2,.slice a3 n3 c3,.slice none 0 0],.int .i64 1])∧Ext w w':=by
  refine(Tryz.adaStepIs 16 1 256 8 0 1 w (by unfold I64;omega) (by unfold I64;omega) (by unfold I64;omega) (by unfold I64;omega) (by omega) (Iw.nil 0 _ _) (Iw.nil 0 _ _) (Iw.nil 0 _ _) (Iw.nil 0 _ _)).mono ?_
  rintro e w' ⟨hE,a1,n1,c1,a2,n2,c2,a3,n3,c3,he,-⟩
  rw[adaE_arg (.inr (.inl (by decide)))]at he
  exact⟨a1,n1,c1,a2,n2,c2,a3,n3,c3,he,hE⟩
theorem Tryz.adaRightL (w:World):Calls Tryz.prog 14 #[.agg #[.int .i64 16,.int .i64 1,.int .i64 256],.int .i64 8] w fun e w'=>e=.returned (.bool true)∧Ext w w':=by
  have h:=Tryz.adaRight 16 1 256 8 w
  rw[show rightAda ⟨16,1,256⟩ 8=true from by decide]at h
  exact h
set_option maxRecDepth 100000 in
set_option maxHeartbeats 8000000 in
theorem Tryz.aliveL (w:World):
    Calls Tryz.prog 5 #[] w fun e w'=>e=.returned (.bool true)∧Ext w w':=by
  have E0:=Ext.refl w
  go_enter Tryz.func5,Tryz.ntmps5
  go_upto_region 2 with (fail)
  have p1:=BxA.new w 23 #[.int .i64 16,.int .i64 1,.int .i64 256]
  have hE:=Ext.alloc1 w (.cells #[.int .i64 16,.int .i64 1,.int .i64 256] 23)
  obtain⟨N1,hN1⟩:∃ V,V=w.alloc (.cells #[.int .i64 16,.int .i64 1,.int .i64 256] 23):=⟨_,rfl⟩
  rw[← hN1]at p1 hE ⊢
  clear hN1
  obtain⟨g1,hg1⟩:∃ g,g=w.heap.size:=⟨_,rfl⟩
  rw[← hg1]at p1 ⊢
  clear hg1
  replace E0:Ext w N1:=(Ext.trans E0 hE)
  clear hE
  replace p1:Bx3 N1 g1 23 (.int .i64 16) (.int .i64 1) (.int .i64 256):=p1
  have kp1_0:=p1.cell0
  have kp1_1:=p1.cell1
  have kp1_2:=p1.cell2
  go_wp2_with fail
  clear kp1_0 kp1_1 kp1_2
  refine(Tryz.adaShare324 _).mono ?_
  rintro e V1 ⟨rfl,hE⟩
  replace E0:=(Ext.trans E0 hE)
  replace p1:=(p1.ext hE)
  clear hE
  obtain⟨X1,hX1⟩:∃ X,X=V1.alloc (.cells #[.int .i64 256] 2):=⟨_,rfl⟩
  obtain⟨X2,hX2⟩:∃ X,X=X1.alloc (.cells #[.int .i64 9] 2):=⟨_,rfl⟩
  obtain⟨X3,hX3⟩:∃ X,X=X2.alloc (.cells #[.int .i64 512] 2):=⟨_,rfl⟩
  have e1:X1.heap.size=V1.heap.size+1:=by rw[hX1];simp
  have e2:X2.heap.size=V1.heap.size+1+1:=by rw[hX2];simp[e1]
  have e3:X3.heap.size=V1.heap.size+1+1+1:=by rw[hX3];simp[e2]
  have E1:Ext V1 X1:=by rw[hX1];exact Ext.alloc1 _ _
  have E2:Ext X1 X2:=by rw[hX2];exact Ext.alloc1 _ _
  have E3:Ext X2 X3:=by rw[hX3];exact Ext.alloc1 _ _
  have i1:Iw 0 X3.heap.size X3 (some ⟨V1.heap.size,0,none⟩) 1 1 [256]:=by
    have h:=iw_new (lo:=0) V1 2 (x:=256) (by unfold I64;omega) (Nat.zero_le _)
    rw[← hX1]at h
    exact((h.ext E2).ext E3).mono (Nat.le_refl _) (by omega)
  have i2:Iw 0 X3.heap.size X3 (some ⟨V1.heap.size+1,0,none⟩) 1 1 [9]:=by
    have h:=iw_new (lo:=0) X1 2 (x:=9) (by unfold I64;omega) (Nat.zero_le _)
    rw[← hX2,e1]at h
    exact(h.ext E3).mono (Nat.le_refl _) (by omega)
  have i3:Iw 0 X3.heap.size X3 (some ⟨V1.heap.size+1+1,0,none⟩) 1 1 [512]:=by
    have h:=iw_new (lo:=0) X2 2 (x:=512) (by unfold I64;omega) (Nat.zero_le _)
    rw[← hX3,e2]at h
    exact h.mono (Nat.le_refl _) (by omega)
  have hE:=(E1.trans E2).trans E3
  have kp1_0:=p1.cell0
  have kp1_1:=p1.cell1
  have kp1_2:=p1.cell2
  go_wp2_with fail
  clear kp1_0 kp1_1 kp1_2
  rw[← hX1,← hX2,← hX3]
  clear hX1 hX2 hX3 e1 e2 e3 E1 E2 E3
  replace E0:Ext w X3:=(Ext.trans E0 hE)
  replace p1:Bx3 X3 g1 23 (.int .i64 16) (.int .i64 1) (.int .i64 256):=(p1.ext hE)
  clear hE
  refine(Tryz.adaStepL i1 i2 i3).mono ?_
  rintro e V2 ⟨gw,ow,cw,am,cm,gv,ov,cv,rfl,kw,kv,hE⟩
  clear i1 i2 i3
  replace E0:Ext w V2:=(Ext.trans E0 hE)
  replace p1:Bx3 V2 g1 23 (.int .i64 16) (.int .i64 1) (.int .i64 256):=(p1.ext hE)
  clear hE
  have kp1_0:=p1.cell0
  have kp1_1:=p1.cell1
  have kp1_2:=p1.cell2
  go_upto_region 4 with (fail)
  clear kp1_0 kp1_1 kp1_2
  have p4:=BxA.new V2 27 #[.slice (some ⟨gw,ow,none⟩) 1 cw,.slice am 0 cm,.slice (some ⟨gv,ov,none⟩) 1 cv,.slice none 0 0]
  have hE:=Ext.alloc1 V2 (.cells #[.slice (some ⟨gw,ow,none⟩) 1 cw,.slice am 0 cm,.slice (some ⟨gv,ov,none⟩) 1 cv,.slice none 0 0] 27)
  obtain⟨N4,hN4⟩:∃ V,V=V2.alloc (.cells #[.slice (some ⟨gw,ow,none⟩) 1 cw,.slice am 0 cm,.slice (some ⟨gv,ov,none⟩) 1 cv,.slice none 0 0] 27):=⟨_,rfl⟩
  rw[← hN4]at p4 hE ⊢
  clear hN4
  obtain⟨g4,hg4⟩:∃ g,g=V2.heap.size:=⟨_,rfl⟩
  rw[← hg4]at p4 ⊢
  clear hg4
  replace E0:Ext w N4:=(Ext.trans E0 hE)
  replace p1:Bx3 N4 g1 23 (.int .i64 16) (.int .i64 1) (.int .i64 256):=(p1.ext hE)
  replace kw:World.cell? N4 ⟨gw,ow,none⟩=some (.int .i64 240):=(Ext.cell hE kw)
  replace kv:World.cell? N4 ⟨gv,ov,none⟩=some (.int .i64 1025):=(Ext.cell hE kv)
  clear hE
  have kp1_0:=p1.cell0
  have kp1_1:=p1.cell1
  have kp1_2:=p1.cell2
  obtain⟨kp4_0,kp4_1,kp4_2,kp4_3⟩:=p4.c4
  go_wp2_with fail
  clear kp1_0 kp1_1 kp1_2 kp4_0 kp4_1 kp4_2 kp4_3
  refine(Tryz.adaBadL _).mono ?_
  rintro e V3 ⟨x1,m1,y1,x2,m2,y2,x3,m3,y3,rfl,hE⟩
  replace E0:=(Ext.trans E0 hE)
  replace p1:=(p1.ext hE)
  replace kw:=(Ext.cell hE kw)
  replace kv:=(Ext.cell hE kv)
  replace p4:=(p4.ext hE)
  clear hE
  have kp1_0:=p1.cell0
  have kp1_1:=p1.cell1
  have kp1_2:=p1.cell2
  obtain⟨kp4_0,kp4_1,kp4_2,kp4_3⟩:=p4.c4
  go_upto_region 5 with (fail)
  clear kp1_0 kp1_1 kp1_2 kp4_0 kp4_1 kp4_2 kp4_3
  have p6:=BxA.new V3 27 #[.slice x1 m1 y1,.slice x2 m2 y2,.slice x3 m3 y3,.slice none 0 0]
  have hE:=Ext.alloc1 V3 (.cells #[.slice x1 m1 y1,.slice x2 m2 y2,.slice x3 m3 y3,.slice none 0 0] 27)
  obtain⟨N6,hN6⟩:∃ V,V=V3.alloc (.cells #[.slice x1 m1 y1,.slice x2 m2 y2,.slice x3 m3 y3,.slice none 0 0] 27):=⟨_,rfl⟩
  rw[← hN6]at p6 hE ⊢
  clear hN6
  obtain⟨g6,hg6⟩:∃ g,g=V3.heap.size:=⟨_,rfl⟩
  rw[← hg6]at p6 ⊢
  clear hg6
  replace E0:Ext w N6:=(Ext.trans E0 hE)
  replace p1:Bx3 N6 g1 23 (.int .i64 16) (.int .i64 1) (.int .i64 256):=(p1.ext hE)
  replace kw:World.cell? N6 ⟨gw,ow,none⟩=some (.int .i64 240):=(Ext.cell hE kw)
  replace kv:World.cell? N6 ⟨gv,ov,none⟩=some (.int .i64 1025):=(Ext.cell hE kv)
  replace p4:BxA N6 g4 27 #[.slice (some ⟨gw,ow,none⟩) 1 cw,.slice am 0 cm,.slice (some ⟨gv,ov,none⟩) 1 cv,.slice none 0 0]:=(p4.ext hE)
  clear hE
  have kp1_0:=p1.cell0
  have kp1_1:=p1.cell1
  have kp1_2:=p1.cell2
  obtain⟨kp4_0,kp4_1,kp4_2,kp4_3⟩:=p4.c4
  obtain⟨kp6_0,kp6_1,kp6_2,kp6_3⟩:=p6.c4
  go_wp2_with fail
  clear kp1_0 kp1_1 kp1_2 kp4_0 kp4_1 kp4_2 kp4_3 kp6_0 kp6_1 kp6_2 kp6_3
  refine(Tryz.adaRightL _).mono ?_
  rintro e V4 ⟨rfl,hE⟩
  replace E0:=(Ext.trans E0 hE)
  replace p1:=(p1.ext hE)
  replace kw:=(Ext.cell hE kw)
  replace kv:=(Ext.cell hE kv)
  replace p4:=(p4.ext hE)
  replace p6:=(p6.ext hE)
  clear hE
  have kp1_0:=p1.cell0
  have kp1_1:=p1.cell1
  have kp1_2:=p1.cell2
  obtain⟨kp4_0,kp4_1,kp4_2,kp4_3⟩:=p4.c4
  obtain⟨kp6_0,kp6_1,kp6_2,kp6_3⟩:=p6.c4
  go_wp2
  go_ret
  exact⟨rfl,E0⟩
end Go.Rt
namespace Go.Rt
open Go Go.RowKit Go.Proofs
def AdaTo (w w':World) (e:Ending) (E:Int) (xw xm xv:List Int):Prop:=
 Ext w w'∧∃ a1 n1 c1 a2 n2 c2 a3 n3 c3,e=.returned (.tuple #[.agg #[.slice a1 n1 c1,.slice a2 n2 c2,.slice a3 n3 c3,.slice none 0 0],.int .i64 E]) ∧
  Iw w.heap.size w'.heap.size w' a1 n1 c1 xw∧Iw w.heap.size w'.heap.size w' a2 n2 c2 xm∧Iw w.heap.size w'.heap.size w' a3 n3 c3 xv
theorem Tryz.adaStepTo {a0 a1 a2 a3:Option Addr} {n0 n1 n2 n3 c0 c1 c2 c3:Nat} {lw lm lv lg xw xm xv:List Int} {E:Int} (lr ep d f tt c:Int) (w:World) (q1:I64 lr) (q2:I64 ep) (q3:I64 d) (q4:I64 c) (hn:n0≤40)
  (h:adaE ⟨lr,ep,d⟩ f tt c lw lm lv lg=E∧stepW ⟨lr,ep,d⟩ f tt c lw lm lv lg=xw∧stepM ⟨lr,ep,d⟩ f tt c lw lm lv lg=xm∧stepV ⟨lr,ep,d⟩ f tt c lw lm lv lg=xv)
  (hi0:Iw 0 w.heap.size w a0 n0 c0 lw) (hi1:Iw 0 w.heap.size w a1 n1 c1 lm) (hi2:Iw 0 w.heap.size w a2 n2 c2 lv) (hi3:Iw 0 w.heap.size w a3 n3 c3 lg):
  Calls Tryz.prog 6 #[.agg #[.int .i64 lr,.int .i64 ep,.int .i64 d],.int .i64 f,.agg #[.int .i64 tt,.int .i64 c],.agg #[.slice a0 n0 c0,.slice a1 n1 c1,.slice a2 n2 c2,.slice a3 n3 c3]] w fun e w'=>AdaTo w w' e E xw xm xv:=by
 obtain⟨rfl,rfl,rfl,rfl⟩:=h
 exact Tryz.adaStepIs lr ep d f tt c w q1 q2 q3 q4 hn hi0 hi1 hi2 hi3
end Go.Rt
