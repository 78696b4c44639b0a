/-
  nat.Sub: a difference, limb by limb.
  The program's integers: made, Neg, Mul, Of, Add, Cmp, Int.
-/
import Derived.Test.YtiebflipijcnfaaGreatGL
namespace Go.Rt
open Go.RowKit Go.Shelf Go.Proofs
attribute [local go_sem] Oper.semAt_some
theorem sub_step64 {b:Nat} {l x y:List Nat} {k c s d:Nat} (hl:l.length=k) (he:ev b l+ev b (y.take k)=ev b (x.take k)+b^k*c) (hs:s+y.getD k 0+c=x.getD k 0+b*d):
  ev b (l++[s])+ev b (y.take (k+1))=ev b (x.take (k+1))+b^(k+1)*d:=by
 rw[ev_snoc,hl,ev_take_succ',ev_take_succ']
 generalize x.getD k 0=p at *
 generalize y.getD k 0=q at *
 have h2:b^k*(s+q+c)=b^k*p+b^(k+1)*d:=by rw[hs,Nat.mul_add,Nat.pow_succ,Nat.mul_assoc]
 rw[Nat.mul_add,Nat.mul_add]at h2
 omega
def subI (w:World) (B:Nat) (tN tU tF:TypeId) (at':Nat) (va vb:Value) (xs ys:List Nat) (k:Nat) (W:World):Prop:=
 Ext w W∧Boxed W B tN va∧Boxed W (B+1) tN vb∧Boxed W (B+1+1) tF (.func (.func at') #[] #[]) ∧
 ∃ (vo:Value) (l:List Nat) (c:Nat),Boxed W w.heap.size tN vo∧Boxed W (w.heap.size+1) tU (.int .u64 (c:Int))∧Own W (w.heap.size+1+1) tU vo l ∧
  Hid (Lim B64 l∧l.length=k∧c≤1∧ev B64 l+ev B64 (ys.take k)=ev B64 (xs.take k)+B64^k*c)
theorem subI_turns {w:World} {B:Nat} {tN tU tF:TypeId} {at':Nat} {va vb:Value} {xs ys:List Nat} (D:Nat) (hD:w.heap.size≤D) (k:Nat):Turns D (subI w B tN tU tF at' va vb xs ys k):=
 (Turns.ext hD).and ((Turns.box _ _ _ _).and ((Turns.box _ _ _ _).and ((Turns.box _ _ _ _).and (Turns.ex fun _=>Turns.ex fun _=>Turns.ex fun _=>(Turns.box _ _ _ _).and ((Turns.box _ _ _ _).and (Turns.own.and (Turns.pure _ _)))))))
theorem subI_alloc {w:World} {B:Nat} {tN tU tF:TypeId} {at':Nat} {va vb:Value} {xs ys:List Nat} {k:Nat} {W:World} (h:subI w B tN tU tF at' va vb xs ys k W) (o:Obj):subI w B tN tU tF at' va vb xs ys k (W.alloc o):=
 ⟨h.1.alloc o,h.2.1.alloc o,h.2.2.1.alloc o,h.2.2.2.1.alloc o,let ⟨vo,l,c,p1,p2,p3,p4⟩:=h.2.2.2.2;⟨vo,l,c,p1.alloc o,p2.alloc o,p3.alloc o,p4⟩⟩
set_option maxRecDepth 100000 in
set_option maxHeartbeats 2000000 in
theorem Tryz.natSubGe {v1 v2:Value} {N M L:Nat} {ww:World} (h1:Nw ww v1 N) (h2:Nw ww v2 M) (s1:Sm L N) (s2:Sm L M) (hL:L≤10000000) (hge:M≤N):
  Calls Tryz.prog 127 #[v1,v2] ww fun e w'=>∃ v',e=.returned (.tuple #[v',.int .i64 0])∧Nw w' v' (N - M)∧Ext ww w':=by
 have hcm:=Tryz.natCmp h1 h2
 have hcn:¬ (cmpI N M < 0):=by unfold cmpI;split;omega;split <;> omega
 obtain⟨cm,hcme⟩:∃ cm,cm=cmpI N M:=⟨_,rfl⟩
 rw[← hcme]at hcm hcn
 clear hcme
 obtain⟨xs,hx,hxn,rfl,hxl⟩:=h1.lens s1
 obtain⟨ys,hy,hyn,rfl,hyl⟩:=h2.lens s2
 have hx':=hx
 have hy':=hy
 obtain⟨a1,b1,o1,c1,rfl,hs1,hl1⟩:=hx
 obtain⟨a2,b2,o2,c2,rfl,hs2,hl2⟩:=hy
 obtain⟨n,hn⟩:∃ n,n=max xs.length ys.length:=⟨_,rfl⟩
 have hxn':xs.length≤n:=by omega
 have hyn':ys.length≤n:=by omega
 have hnL:n≤L:=by omega
 have HN:=Lib.hid hn
 obtain⟨va,hva⟩:∃ va,va=Value.slice a1 xs.length c1:=⟨_,rfl⟩
 obtain⟨vb,hvb⟩:∃ vb,vb=Value.slice a2 ys.length c2:=⟨_,rfl⟩
 rw[← hva]at hx'
 rw[← hvb]at hy'
 have HG:=Lib.hid hge
 have HVA:=Lib.hid hva
 have HVB:=Lib.hid hvb
 clear hs1 hs2 hn h1 h2 s1 s2 hxn hyn hge hva hvb
 refine(callsIn_wide (n:=10)).1 ?_
 refine callsIn_of_wp_marks Tryz.func127 rfl trivial ?_ rfl
 simp only[Tryz.ntmps127,List.size_toArray,List.length_cons,List.length_nil,Nat.reduceAdd,Nat.reduceSub,Array.replicate_succ,Array.replicate_zero,List.push_toArray,List.append_toArray,List.nil_append,List.cons_append]
 refine wpIn_wide.2 ?_
 go_wp2_with fail
 refine hcm.mono ?_
 rintro e w ⟨rfl,EW⟩
 clear hcm
 replace hx':=hx'.ext EW
 replace hy':=hy'.ext EW
 go_wp2_with fail
 refine(Tryz.pairs_ok _ _ _ _ _ _ _).mono ?_
 rintro e w' ⟨rfl,rfl⟩
 go_wp2_with fail
 refine(wpIn_wide (n:=10)).1 ?_
 rw[← HVA.out,← HVB.out]
 obtain⟨W0,hW0⟩:∃ W0,W0=(((((w.alloc (.cells #[.slice none 0 0] 41)).alloc (.cells #[.int .u64 0] 61)).alloc (.cells #[va] 41)).alloc (.cells #[vb] 41)).alloc (.cells #[.func (.func 116) #[] #[]] 87)):=⟨_,rfl⟩
 have b0:=((((Boxed.new w 41 (.slice none 0 0)).alloc (.cells #[.int .u64 0] 61)).alloc (.cells #[va] 41)).alloc (.cells #[vb] 41)).alloc (.cells #[.func (.func 116) #[] #[]] 87)
 have b1:=(((Boxed.new (w.alloc (.cells #[.slice none 0 0] 41)) 61 (.int .u64 0)).alloc (.cells #[va] 41)).alloc (.cells #[vb] 41)).alloc (.cells #[.func (.func 116) #[] #[]] 87)
 have b2:=((Boxed.new ((w.alloc (.cells #[.slice none 0 0] 41)).alloc (.cells #[.int .u64 0] 61)) 41 va).alloc (.cells #[vb] 41)).alloc (.cells #[.func (.func 116) #[] #[]] 87)
 have b3:=(Boxed.new (((w.alloc (.cells #[.slice none 0 0] 41)).alloc (.cells #[.int .u64 0] 61)).alloc (.cells #[va] 41)) 41 vb).alloc (.cells #[.func (.func 116) #[] #[]] 87)
 have b4:=Boxed.new ((((w.alloc (.cells #[.slice none 0 0] 41)).alloc (.cells #[.int .u64 0] 61)).alloc (.cells #[va] 41)).alloc (.cells #[vb] 41)) 87 (.func (.func 116) #[] #[])
 have E0:Ext w W0:=by rw[hW0];exact((((Ext.alloc1 w _).alloc _).alloc _).alloc _).alloc _
 simp only[World.size_alloc]at b1 b2 b3 b4
 rw[← hW0]at b0 b1 b2 b3 b4 ⊢
 have hsz:W0.heap.size=w.heap.size+1+1+1+1+1:=by rw[hW0];simp
 clear hW0
 have hI0:subI w (w.heap.size+1+1) 41 61 87 116 va vb xs ys 0 W0:=
  ⟨E0,b2,b3,b4,.slice none 0 0,[],0,b0,b1,Own.nil _ _ _,Lib.hid ⟨Lim.nil _,rfl,by omega,by simp⟩⟩
 clear b0 b1 b2 b3 b4 E0
 refine wpIn_range (gf:=117) (lb:=#[.pointer (some ⟨w.heap.size+1+1,0,none⟩),.pointer (some ⟨w.heap.size+1+1+1,0,none⟩),.pointer (some ⟨w.heap.size+1+1+1+1,0,none⟩)]) rfl (enters_of Tryz.func117 (by kernel_rfl) rfl)
  (Tryz.pairs_iter (w.heap.size+1+1) (w.heap.size+1+1+1) (w.heap.size+1+1+1+1) va vb xs ys) (fun _=>rfl)
  (subI w (w.heap.size+1+1) 41 61 87 116 va vb xs ys) shrX (fun k=>subI_turns _ (by omega) k) (fun _ _=>Turns.pure _ _)
  (fun k W o h=>subI_alloc h o) (fun _ _ h=>⟨h.1.drew,h.2⟩) hI0 ?can ?round ?done ?stop
 case can=>
  rintro k W hk ⟨hE,p0,p1,p2,_⟩
  exact⟨p0.cell,p1.cell,p2.cell,hx'.ext hE,hy'.ext hE⟩
 case stop=>
  rintro D c k W hD hk hX
  exact hX.elim
 case round=>
  intro l k W hk _
  simp only[pairVals]
  obtain⟨x,hx⟩:∃ x,x=lg xs k:=⟨_,rfl⟩
  obtain⟨y,hy⟩:∃ y,y=lg ys k:=⟨_,rfl⟩
  rw[← hx,← hy]
  have HX:=Lib.hid hx
  have HY:=Lib.hid hy
  clear hx hy
  simp only[fold2,List.setIfInBounds_toArray,List.set_cons_succ,List.set_cons_zero]
  gi_wp2
  refine roundThen.mk ?_
  rintro W2 ⟨hE,pa,pb,pt,vo,lo,c,p0,p1,po,hH⟩
  obtain⟨e1,e2,e3,e4⟩:=hH.out
  have hx:=HX.out
  have hy:=HY.out
  have hxb:=lg_lt hl1 k
  have hyb:=lg_lt hl2 k
  rw[← hx]at hxb
  rw[← hy]at hyb
  obtain⟨s,d,hs,hsb,hd1⟩:∃ s d,s+y+c=x+B64*d∧s < B64∧d≤1:=by
   by_cases h:y+c≤x
   ·exact⟨x - (y+c),0,by omega,by omega,by omega⟩
   ·exact⟨x+B64 - (y+c),1,by omega,by omega,by omega⟩
  have hadd:∀ W,(callFunc 106 #[.int .u64 (x:Int),.int .u64 (y:Int),.int .u64 (c:Int)]).run Tryz.prog W=.ok (.value (.tuple #[.int .u64 (s:Int),.int .u64 (d:Int)])) W:=fun W=>Tryz.sub64 hxb hyb e3 hs hsb hd1 W
  have hst:ev B64 (lo++[s])+ev B64 (ys.take (k+1))=ev B64 (xs.take (k+1))+B64^(k+1)*d:=sub_step64 e2 e4 (by rw[hx,hy]at hs;exact hs)
  have HH:Hid (Lim B64 (lo++[s])∧(lo++[s]).length=k+1∧d≤1∧ev B64 (lo++[s])+ev B64 (ys.take (k+1))=ev B64 (xs.take (k+1))+B64^(k+1)*d):=
   Lib.hid ⟨e1.snoc hsb,by simp[e2],hd1,hst⟩
  have hll:lo.length≤1099511627776:=by rw[e2];have:=HN.out;omega
  have hcc:=p1.cell
  have hcf:=p1.frozen
  have hco:=p0.cell
  have hEs:w.heap.size+1+1≤W2.heap.size:=by have:=pb.lt;omega
  clear e1 e2 e3 e4 hs hst hx hy hH hxb hyb
  gi_wp2_with (first | (refine⟨trivial,?_⟩;go_simp) | (refine append_one_in Tryz.underlying41 Tryz.infoU rfl _ _ rfl (w.heap.size+1+1) vo lo s _ (by rfl) (by rfl) po (by rfl) hll hEs ?_;intro v' w5 hown5 hgrow5;obtain⟨g5,c5,rfl,-,-,-⟩:=hown5.some (by simp);have p05:=(p0.alloc (.cells #[.int .u64 (s:Int)] 61)).kept hgrow5 (p0.not_row (by decide) po);have hf5:=p05.frozen;have hc5:=p05.cell;have p15:=(p1.alloc (.cells #[.int .u64 (s:Int)] 61)).kept hgrow5 (fun e=>by have:=po.lt _ e.symm;omega);have hf6:=p15.frozen;have hc6:=p15.cell))
  have hl5:(lo++[s]).length=lo.length+1:=by simp
  rw[hl5]at hown5
  have po1:=po.alloc (.cells #[.int .u64 (s:Int)] 61)
  have hgr:∀ j,vo.ownBlock=some j→w.heap.size≤j:=fun j e=>by have:=po.lt j e;omega
  refine⟨?_,?_,?_,?_,?_,.slice (some ⟨g5,0,none⟩) (lo.length+1) c5,lo++[s],d,(p05.set _).other (by omega) _,?_,?_,HH⟩
  ·exact(((KeepsFrom.alloc1 _ _ _).trans (KeepsFrom.grown hgrow5 po1.cells)).trans (KeepsFrom.setCell1 _ _ _ _)).trans (KeepsFrom.setCell1 _ _ _ _)
  ·exact(((hE.alloc _).grown hgrow5 hgr).setCell (p:=⟨w.heap.size,0,none⟩) (Nat.le_refl _) _).setCell (p:=⟨w.heap.size+1,0,none⟩) (by show _≤w.heap.size+1;omega) _
  ·exact(((pa.alloc _).kept hgrow5 (pa.not_row (by decide) po)).other (by omega) _).other (by omega) _
  ·exact(((pb.alloc _).kept hgrow5 (pb.not_row (by decide) po)).other (by omega) _).other (by omega) _
  ·exact(((pt.alloc _).kept hgrow5 (pt.not_row (by decide) po)).other (by omega) _).other (by omega) _
  ·exact(box_off (p:=⟨w.heap.size,0,none⟩) p15 (by show w.heap.size≠_;omega) _).set _
  ·have:=hown5.lt g5 rfl
   exact(hown5.kept (grownBy_setCell' _ w.heap.size _) (.inr (by simp[Value.ownBlock];omega))).kept (grownBy_setCell' _ (w.heap.size+1) _) (.inr (by simp[Value.ownBlock];omega))
 case done=>
  rintro D W hD ⟨hE,-,-,-,vo,lo,c,p0,p1,po,hH⟩ hK
  obtain⟨e1,e2,e3,e4⟩:=hH.out
  rw[← HN.out]at e2 e4
  have hc0:c=0:=by
   rw[List.take_of_length_le hxn',List.take_of_length_le hyn']at e4
   have h1:ev B64 lo < B64^n:=by have:=ev_lt e1;rwa [e2]at this
   have h2:=HG.out
   rcases Nat.eq_zero_or_pos c with h | h
   ·exact h
   ·exfalso
    have:B64^n*1≤B64^n*c:=Nat.mul_le_mul_left _ h
    omega
  have hev:ev B64 lo=ev B64 xs - ev B64 ys:=by
   rw[List.take_of_length_le hxn',List.take_of_length_le hyn',hc0]at e4
   omega
  have hll:lo.length≤1099511627776:=by rw[e2];omega
  have hco:=p0.cell
  have HEV:=Lib.hid hev
  have hnt:=po.nt e1
  clear e1 e2 e3 e4 hev hI0 hH hc0
  go_wp2_with fail
  refine(Tryz.natBare hnt).mono ?_
  rintro e w' ⟨v2,rfl,hn2,rfl,hob⟩
  rw[HEV.out]at hn2
  go_wp2
  exact post_mark hK (results_tmp2 rfl _ _ _) ⟨_,rfl,hn2.putObj hK rfl,EW.trans (hE.putObj (l:=D) (by omega) (.deferred none))⟩
theorem Tryz.natSubLt {v1 v2:Value} {N M:Nat} {w:World} (h1:Nw w v1 N) (h2:Nw w v2 M) (hlt:N < M):
  Calls Tryz.prog 127 #[v1,v2] w fun e w'=>∃ v',e=.returned (.tuple #[v',.int .i64 2])∧Ext w w':=by
 have hcm:=Tryz.natCmp h1 h2
 rw[cmpI_lt (by omega)]at hcm
 go_enter Tryz.func127,Tryz.ntmps127
 go_wp2_with fail
 refine hcm.mono ?_
 rintro e w1 ⟨rfl,hE⟩
 go_wp2
 go_ret2
 exact⟨_,rfl,hE⟩
end Go.Rt
namespace Go.Rt
open Go.RowKit Go.Proofs
set_option maxHeartbeats 400000 in
theorem Tryz.zedMade {v:Value} {N:Nat} {w:World} (h:Nw w v N) (b:Bool):
  Calls Tryz.prog 126 #[.bool b,v] w fun e w'=>∃ v',e=.returned v'∧Zw w' v' (sgn b N)∧Ext w w':=by
 obtain⟨a,n,c,rfl,hz,-⟩:=h.len
 have key:∀ b',b'=(b && decide (0 < N))→Hid (Zw (w.alloc (.cells #[.bool b',.slice a n c] 43)) (.agg #[.bool b',.slice a n c]) (sgn b N)):=fun b' hb=>
  Lib.hid ⟨b',a,n,c,rfl,Lib.hid (by rw[sgn_neg,hb]),by rw[sgn_abs];exact h.ext (Ext.alloc1 _ _)⟩
 cases b
 ·have HZ:=key false (by simp)
  clear hz h key
  go_enter Tryz.func126,Tryz.ntmps126
  go_wp2
  exact bodyPost_ret (v:=.agg #[.bool false,.slice a n c]) (by simp[results,Tryz.results126,go_sem]) rfl ⟨_,rfl,HZ.out,Ext.alloc1 _ _⟩
 ·by_cases h0:0 < n
  ·have h0I:(0:Int) < (n:Int):=by omega
   have HZ:=key true (by rw[pos_of hz h0];rfl)
   clear hz h key
   go_enter Tryz.func126,Tryz.ntmps126
   go_wp2
   exact bodyPost_ret (v:=.agg #[.bool true,.slice a n c]) (by simp[results,Tryz.results126,go_sem]) rfl ⟨_,rfl,HZ.out,Ext.alloc1 _ _⟩
  ·have h0I:¬ (0:Int) < (n:Int):=by omega
   have HZ:=key false (by rw[zero_of hz h0];rfl)
   clear hz h key
   go_enter Tryz.func126,Tryz.ntmps126
   go_wp2
   exact bodyPost_ret (v:=.agg #[.bool false,.slice a n c]) (by simp[results,Tryz.results126,go_sem]) rfl ⟨_,rfl,HZ.out,Ext.alloc1 _ _⟩
theorem sgn_of {n:Int}:sgn (decide (n < 0)) n.natAbs=n:=by
 unfold sgn
 by_cases h:n < 0
 ·rw[decide_eq_true h];simp;omega
 ·rw[decide_eq_false h];simp;omega
set_option maxRecDepth 100000 in
set_option maxHeartbeats 400000 in
theorem Tryz.zedOf (n:Int) (w:World) (h1:-9223372036854775808≤n) (h2:n < 9223372036854775808):
  Calls Tryz.prog 121 #[.int .i64 n] w fun e w'=>∃ v',e=.returned v'∧Zw w' v' n∧Ext w w':=by
 have HS:Hid (sgn (decide (n < 0)) n.natAbs=n):=Lib.hid sgn_of
 have HB:Hid (n.natAbs < B64):=Lib.hid (by rw[B64_eq];omega)
 obtain⟨M,hM⟩:∃ M,M=n.natAbs:=⟨_,rfl⟩
 rw[← hM]at HS HB
 by_cases hn:n < 0
 ·have hM2:n = -(M:Int):=by omega
  subst hM2
  have hM0:0 < M:=by omega
  have e1:IntKind.u64.wrap (-(M:Int))=18446744073709551616 - (M:Int):=by rw[IntKind.wrap_u64];omega
  have e2:IntKind.u64.wrap (-(18446744073709551616 - (M:Int)))=(M:Int):=by rw[IntKind.wrap_u64];omega
  have hD:decide (-(M:Int) < 0)=true:=decide_eq_true hn
  rw[hD]at HS
  clear hM
  obtain⟨W0,hW0,E0,p2⟩:=boxed1 w 43 #[.bool false,.slice none 0 0]
  replace p2:=p2.b2
  go_enter Tryz.func121,Tryz.ntmps121
  obtain⟨k2a,k2b⟩:=p2.c2
  go_upto_region 4 with (fail)
  rw[← hW0]
  clear hW0;clear k2a k2b;have fp2:=p2.form;have ltfp2:=fp2.lt;have szw1:=Ext.size E0
  refine region_gs [isV (.int .i64 (-(M:Int))),isV (.bool true),isV (.int .u64 (M:Int)),
    .one fun v W=>Nw W v M,
    .one fun v W=>Zw W v ((-(M:Int))),
    .two 4 (fun r _ W=>At2 w.heap.size 43 r W)]
   (fun W=>Ext w W∧Form W w.heap.size 43 2∧W0.heap.size≤W.heap.size) ⟨Good.is _,Good.is _,Good.is _,Good.num _,Good.zed _,cert_at2,trivial⟩
   ⟨E0,fp2,Nat.le_refl _⟩ (A:=?A1) ?hA1 ?howe1 ?hfin1
  case hA1=>
   intro vs
   simp only[putAll,Act.put,sA,sZ,sS,Nat.zero_add,Nat.reduceAdd]
   exact rfl
  case howe1=>
   clear E0 fp2
   intro hf
   refine⟨oP0 0 [] hf rfl,oP1 1 [0] hf rfl,oP0 2 [] hf rfl,oE 3 [2] hf rfl ?_,oE 4 [1,3] hf rfl ?_,oW 5 [4] hf rfl ?_,trivial⟩
   all_goals intro vs W hS hp hx KO hKO
   all_goals simp only[Act.put,sA,sZ,sS]at hKO
   ·have e2:=isOf hp.1;simp only[e2]at hKO;go_simp
    refine(Tryz.natOf M _ HB.out).mono ?_
    rintro e W1 ⟨v,rfl,hv,hE,-⟩
    exact hKO _ W1 hE hv
   ·have e1:=isOf hp.1;have q3:=hp.2.1;simp only[e1]at hKO;go_simp
    refine(Tryz.zedMade q3 true).mono ?_
    rintro e W1 ⟨v,rfl,hv,hE⟩
    rw[HS.out]at hv
    exact hKO _ W1 hE hv
   ·have q4:=hp.1
    have hf:=hS.2.1
    obtain⟨x0,y0,hx,hno⟩:=hf.bx2
    have qr:=q4
    obtain⟨b3,a3,n3,c3,er,-,-⟩:=qr
    replace er:vs 4=_:=er
    have r0:=hx.froz0
    have t0:=hx.cell0
    have r1:=hx.froz1
    have t1:=hx.cell1
    have hw:=Wr.set2 hx hno b3 a3 n3 c3
    have hq:=hx.set (.bool b3) (.slice a3 n3 c3)
    have hg:w.heap.size≤w.heap.size:=Nat.le_refl _
    simp only[er]at hKO;go_simp
    exact hKO _ _ hw ⟨(Ext.wr hS.1 hw (by omega)),(hS.2.1.wr hw),(Nat.le_trans hS.2.2 hw.apart.size)⟩ ⟨b3,a3,n3,c3,er,hq⟩
  intro vs W1 hS hp
  clear szw1 E0 fp2
  obtain⟨E0,fp2,sz1⟩:=hS
  obtain⟨h1_0,h1_1,h1_2,h1_3,h1_4,h1_5,-⟩:=hp
  obtain⟨b1_5,a1_5,n1_5,c1_5,er1_5,p1_5⟩:=h1_5
  replace er1_5:vs 4=_:=er1_5;replace h1_4:=(show Zw W1 (vs 4) ((-(M:Int))) from h1_4)
  rw[er1_5]at h1_4
  simp only[er1_5,isOf h1_0,isOf h1_1,isOf h1_2]
  replace h1_3:Nw W1 (vs 3) M:=h1_3
  generalize vs 3=u1_3 at h1_3 ⊢
  clear er1_5 h1_0 h1_1 h1_2
  obtain⟨k1_5a,k1_5b⟩:=p1_5.c2
  go_wp2
  exact bodyPost_ret (v:=.agg #[.bool b1_5,.slice a1_5 n1_5 c1_5]) (by simp[results,Tryz.results121,go_sem,k1_5a,k1_5b]) rfl ⟨_,rfl,h1_4,E0⟩
 ·have hM2:n=(M:Int):=by omega
  subst hM2
  have e1:IntKind.u64.wrap (M:Int)=(M:Int):=by rw[IntKind.wrap_u64];omega
  have hD:decide ((M:Int) < 0)=false:=decide_eq_false hn
  rw[hD]at HS
  clear hM
  obtain⟨W0,hW0,E0,p2⟩:=boxed1 w 43 #[.bool false,.slice none 0 0]
  replace p2:=p2.b2
  go_enter Tryz.func121,Tryz.ntmps121
  obtain⟨k2a,k2b⟩:=p2.c2
  go_upto_region 4 with (fail)
  rw[← hW0]
  clear hW0;clear k2a k2b;have fp2:=p2.form;have ltfp2:=fp2.lt;have szw2:=Ext.size E0
  refine region_gs [isV (.int .i64 (M:Int)),isV (.bool false),isV (.int .u64 (M:Int)),
    .one fun v W=>Nw W v M,
    .one fun v W=>Zw W v ((M:Int)),
    .two 4 (fun r _ W=>At2 w.heap.size 43 r W)]
   (fun W=>Ext w W∧Form W w.heap.size 43 2∧W0.heap.size≤W.heap.size) ⟨Good.is _,Good.is _,Good.is _,Good.num _,Good.zed _,cert_at2,trivial⟩
   ⟨E0,fp2,Nat.le_refl _⟩ (A:=?A2) ?hA2 ?howe2 ?hfin2
  case hA2=>
   intro vs
   simp only[putAll,Act.put,sA,sZ,sS,Nat.zero_add,Nat.reduceAdd]
   exact rfl
  case howe2=>
   clear E0 fp2
   intro hf
   refine⟨oP0 0 [] hf rfl,oP1 1 [0] hf rfl,oP0 2 [] hf rfl,oE 3 [2] hf rfl ?_,oE 4 [1,3] hf rfl ?_,oW 5 [4] hf rfl ?_,trivial⟩
   all_goals intro vs W hS hp hx KO hKO
   all_goals simp only[Act.put,sA,sZ,sS]at hKO
   ·have e2:=isOf hp.1;simp only[e2]at hKO;go_simp
    refine(Tryz.natOf M _ HB.out).mono ?_
    rintro e W1 ⟨v,rfl,hv,hE,-⟩
    exact hKO _ W1 hE hv
   ·have e1:=isOf hp.1;have q3:=hp.2.1;simp only[e1]at hKO;go_simp
    refine(Tryz.zedMade q3 false).mono ?_
    rintro e W1 ⟨v,rfl,hv,hE⟩
    rw[HS.out]at hv
    exact hKO _ W1 hE hv
   ·have q4:=hp.1
    have hf:=hS.2.1
    obtain⟨x0,y0,hx,hno⟩:=hf.bx2
    have qr:=q4
    obtain⟨b3,a3,n3,c3,er,-,-⟩:=qr
    replace er:vs 4=_:=er
    have r0:=hx.froz0
    have t0:=hx.cell0
    have r1:=hx.froz1
    have t1:=hx.cell1
    have hw:=Wr.set2 hx hno b3 a3 n3 c3
    have hq:=hx.set (.bool b3) (.slice a3 n3 c3)
    have hg:w.heap.size≤w.heap.size:=Nat.le_refl _
    simp only[er]at hKO;go_simp
    exact hKO _ _ hw ⟨(Ext.wr hS.1 hw (by omega)),(hS.2.1.wr hw),(Nat.le_trans hS.2.2 hw.apart.size)⟩ ⟨b3,a3,n3,c3,er,hq⟩
  intro vs W2 hS hp
  clear szw2 E0 fp2
  obtain⟨E0,fp2,sz2⟩:=hS
  obtain⟨h2_0,h2_1,h2_2,h2_3,h2_4,h2_5,-⟩:=hp
  obtain⟨b2_5,a2_5,n2_5,c2_5,er2_5,p2_5⟩:=h2_5
  replace er2_5:vs 4=_:=er2_5;replace h2_4:=(show Zw W2 (vs 4) ((M:Int)) from h2_4)
  rw[er2_5]at h2_4
  simp only[er2_5,isOf h2_0,isOf h2_1,isOf h2_2]
  replace h2_3:Nw W2 (vs 3) M:=h2_3
  generalize vs 3=u2_3 at h2_3 ⊢
  clear er2_5 h2_0 h2_1 h2_2
  obtain⟨k2_5a,k2_5b⟩:=p2_5.c2
  go_wp2
  exact bodyPost_ret (v:=.agg #[.bool b2_5,.slice a2_5 n2_5 c2_5]) (by simp[results,Tryz.results121,go_sem,k2_5a,k2_5b]) rfl ⟨_,rfl,h2_4,E0⟩
theorem sgn_add_diff {x y:Int} {b c:Bool} (h1:b=decide (x < 0)) (h2:c=decide (y < 0)) (hb:b≠c) (hle:y.natAbs≤x.natAbs):sgn b (x.natAbs - y.natAbs)=x+y:=by
 unfold sgn
 cases b
 ·have a1:=of_decide_eq_false h1.symm
  cases c
  ·exact absurd rfl hb
  ·have a2:=of_decide_eq_true h2.symm
   simp
   omega
 ·have a1:=of_decide_eq_true h1.symm
  cases c
  ·have a2:=of_decide_eq_false h2.symm
   simp
   omega
  ·exact absurd rfl hb
set_option maxRecDepth 100000 in
set_option maxHeartbeats 2000000 in
theorem Tryz.zedAdd {v1 v2:Value} {x y:Int} {L:Nat} {w:World} (h1:Zw w v1 x) (h2:Zw w v2 y) (s1:Sm L x.natAbs) (s2:Sm L y.natAbs) (hL:L≤10000000):
  Calls Tryz.prog 120 #[v1,v2] w fun e w'=>∃ v',e=.returned v'∧Zw w' v' (x+y)∧Ext w w':=by
 obtain⟨b1,a1,n1,c1,rfl,q1⟩:∃ b a n c,v1=.agg #[.bool b,.slice a n c]∧True:=let ⟨b,a,n,c,e,_⟩:=h1;⟨b,a,n,c,e,trivial⟩
 clear q1
 obtain⟨b2,a2,n2,c2,rfl,q2⟩:∃ b a n c,v2=.agg #[.bool b,.slice a n c]∧True:=let ⟨b,a,n,c,e,_⟩:=h2;⟨b,a,n,c,e,trivial⟩
 clear q2
 have hb1:=h1.neg
 have hb2:=h2.neg
 by_cases hb:b1=b2
 ·subst hb
  have HS:Hid (sgn b1 (x.natAbs+y.natAbs)=x+y):=Lib.hid (sgn_add_same hb1.out hb2.out)
  clear hb1 hb2
  obtain⟨W0,hW0,E0,p2,p3,p4⟩:=boxed3 w 43 #[.bool b1,.slice a1 n1 c1] 43 #[.bool b1,.slice a2 n2 c2] 43 #[.bool false,.slice none 0 0]
  replace p2:=p2.b2
  replace p3:=p3.b2
  replace p4:=p4.b2
  replace h1:Zw W0 (.agg #[.bool b1,.slice a1 n1 c1]) x:=h1.ext E0
  replace h2:Zw W0 (.agg #[.bool b1,.slice a2 n2 c2]) y:=h2.ext E0
  go_enter Tryz.func120,Tryz.ntmps120
  obtain⟨k2a,k2b⟩:=p2.c2
  obtain⟨k3a,k3b⟩:=p3.c2
  obtain⟨k4a,k4b⟩:=p4.c2
  go_upto_region 2 with (fail)
  rw[← hW0]
  clear hW0;clear k2a k2b k3a k3b k4a k4b;have fp4:=p4.form;have ltp2:=p2.lt;have ltp3:=p3.lt;have ltfp4:=fp4.lt;have szw3:=Ext.size E0
  refine region_gs [isV (.pointer (some ⟨w.heap.size,0,none⟩)),isV (.bool b1),isV (.pointer (some ⟨w.heap.size,1,none⟩)),isV (.slice a1 n1 c1),isV (.pointer (some ⟨w.heap.size+1,1,none⟩)),isV (.slice a2 n2 c2),
    .one fun v W=>Nw W v (x.natAbs+y.natAbs),
    .one fun v W=>Zw W v (x+y),
    .two 7 (fun r _ W=>At2 (w.heap.size+1+1) 43 r W)]
   (fun W=>Ext w W∧Zw W (.agg #[.bool b1,.slice a1 n1 c1]) x∧Zw W (.agg #[.bool b1,.slice a2 n2 c2]) y∧Bx2 W w.heap.size 43 (.bool b1) (.slice a1 n1 c1)∧Bx2 W (w.heap.size+1) 43 (.bool b1) (.slice a2 n2 c2)∧Form W (w.heap.size+1+1) 43 2∧W0.heap.size≤W.heap.size) ⟨Good.is _,Good.is _,Good.is _,Good.is _,Good.is _,Good.is _,Good.num _,Good.zed _,cert_at2,trivial⟩
   ⟨E0,h1,h2,p2,p3,fp4,Nat.le_refl _⟩ (A:=?A3) ?hA3 ?howe3 ?hfin3
  case hA3=>
   intro vs
   simp only[putAll,Act.put,sA,sZ,sS,Nat.zero_add,Nat.reduceAdd]
   exact rfl
  case howe3=>
   clear E0 h1 h2 p2 p3 fp4
   intro hf
   refine⟨oP0 0 [] hf rfl,oE 1 [0] hf rfl ?_,oP0 2 [] hf rfl,oE 3 [2] hf rfl ?_,oP0 4 [] hf rfl,oE 5 [4] hf rfl ?_,oE 6 [3,5] hf rfl ?_,oE 7 [1,6] hf rfl ?_,oW 8 [7] hf rfl ?_,trivial⟩
   all_goals intro vs W hS hp hx KO hKO
   all_goals simp only[Act.put,sA,sZ,sS]at hKO
   ·have e0:=isOf hp.1;simp only[e0]at hKO;have fc0:=hS.2.2.2.1.cell0;go_simp;exact hKO _ W (.refl W) rfl
   ·have e2:=isOf hp.1;simp only[e2]at hKO;have fc1:=hS.2.2.2.1.cell1;go_simp;exact hKO _ W (.refl W) rfl
   ·have e4:=isOf hp.1;simp only[e4]at hKO;have fc1:=hS.2.2.2.2.1.cell1;go_simp;exact hKO _ W (.refl W) rfl
   ·have e3:=isOf hp.1;have e5:=isOf hp.2.1;simp only[e3,e5]at hKO;go_simp
    refine(Tryz.natAdd (hS.2.1.num) (hS.2.2.1.num) s1 s2 hL).mono ?_
    rintro e W1 ⟨v,rfl,hv,hE,-⟩
    exact hKO _ W1 hE hv
   ·have e1:=isOf hp.1;have q6:=hp.2.1;simp only[e1]at hKO;go_simp
    refine(Tryz.zedMade q6 b1).mono ?_
    rintro e W1 ⟨v,rfl,hv,hE⟩
    rw[HS.out]at hv
    exact hKO _ W1 hE hv
   ·have q7:=hp.1
    have hf:=hS.2.2.2.2.2.1
    obtain⟨x0,y0,hx,hno⟩:=hf.bx2
    have qr:=q7
    obtain⟨b3,a3,n3,c3,er,-,-⟩:=qr
    replace er:vs 7=_:=er
    have r0:=hx.froz0
    have t0:=hx.cell0
    have r1:=hx.froz1
    have t1:=hx.cell1
    have hw:=Wr.set2 hx hno b3 a3 n3 c3
    have hq:=hx.set (.bool b3) (.slice a3 n3 c3)
    have hg:(w.heap.size+1+1)≤(w.heap.size+1+1):=Nat.le_refl _
    simp only[er]at hKO;go_simp
    exact hKO _ _ hw ⟨(Ext.wr hS.1 hw (by omega)),(hS.2.1.wr hw),(hS.2.2.1.wr hw),(hS.2.2.2.1.wr hw (by omega)),(hS.2.2.2.2.1.wr hw (by omega)),(hS.2.2.2.2.2.1.wr hw),(Nat.le_trans hS.2.2.2.2.2.2 hw.apart.size)⟩ ⟨b3,a3,n3,c3,er,hq⟩
  intro vs W3 hS hp
  clear szw3 E0 h1 h2 p2 p3 fp4
  obtain⟨E0,h1,h2,p2,p3,fp4,sz3⟩:=hS
  obtain⟨h3_0,h3_1,h3_2,h3_3,h3_4,h3_5,h3_6,h3_7,h3_8,-⟩:=hp
  obtain⟨b3_8,a3_8,n3_8,c3_8,er3_8,p3_8⟩:=h3_8
  replace er3_8:vs 7=_:=er3_8;replace h3_7:=(show Zw W3 (vs 7) (x+y) from h3_7)
  rw[er3_8]at h3_7
  simp only[er3_8,isOf h3_0,isOf h3_1,isOf h3_2,isOf h3_3,isOf h3_4,isOf h3_5]
  replace h3_6:Nw W3 (vs 6) (x.natAbs+y.natAbs):=h3_6
  generalize vs 6=u3_6 at h3_6 ⊢
  clear er3_8 h3_0 h3_1 h3_2 h3_3 h3_4 h3_5
  obtain⟨k2a,k2b⟩:=p2.c2
  obtain⟨k3a,k3b⟩:=p3.c2
  obtain⟨k3_8a,k3_8b⟩:=p3_8.c2
  go_wp2
  exact bodyPost_ret (v:=.agg #[.bool b3_8,.slice a3_8 n3_8 c3_8]) (by simp[results,Tryz.results120,go_sem,k3_8a,k3_8b]) rfl ⟨_,rfl,h3_7,E0⟩
 ·have hbb:(b1==b2)=false:=beq_eq_false_iff_ne.2 hb
  by_cases hle:y.natAbs≤x.natAbs
  ·have HS:Hid (sgn b1 (x.natAbs - y.natAbs)=x+y):=Lib.hid (sgn_add_diff hb1.out hb2.out hb hle)
   have HLE:=Lib.hid hle
   clear hb1 hb2 hle
   obtain⟨W0,hW0,E0,p2,p3,p4⟩:=boxed3 w 43 #[.bool b1,.slice a1 n1 c1] 43 #[.bool b2,.slice a2 n2 c2] 43 #[.bool false,.slice none 0 0]
   replace p2:=p2.b2
   replace p3:=p3.b2
   replace p4:=p4.b2
   replace h1:Zw W0 (.agg #[.bool b1,.slice a1 n1 c1]) x:=h1.ext E0
   replace h2:Zw W0 (.agg #[.bool b2,.slice a2 n2 c2]) y:=h2.ext E0
   go_enter Tryz.func120,Tryz.ntmps120
   obtain⟨k2a,k2b⟩:=p2.c2
   obtain⟨k3a,k3b⟩:=p3.c2
   obtain⟨k4a,k4b⟩:=p4.c2
   go_upto_region 3 with (fail)
   rw[← hW0]
   clear hW0;clear k2a k2b k3a k3b k4a k4b;have ltp2:=p2.lt;have ltp3:=p3.lt;have ltp4:=p4.lt;have szw4:=Ext.size E0
   refine region_gk [isV (.pointer (some ⟨w.heap.size,1,none⟩)),isV (.slice a1 n1 c1),isV (.pointer (some ⟨w.heap.size+1,1,none⟩)),isV (.slice a2 n2 c2),
     .one fun v W=>∃ v',v=.tuple #[v',.int .i64 0]∧(fun v W=>Nw W v (x.natAbs - y.natAbs)) v' W,
     .one fun v W=>∃ v',v=.tuple #[v',.int .i64 0]∧(fun v W=>Nw W v (x.natAbs - y.natAbs)) v' W,
     .one fun v W=>Nw W v (x.natAbs - y.natAbs),
     isV (.int .i64 0),
     .one fun v W=>Nw W v (x.natAbs - y.natAbs),
     .one fun v _=>v=.int .i64 0] ⟨Good.is _,Good.is _,Good.is _,Good.is _,(Good.num _).tup _,(Good.num _).tup _,Good.num _,Good.is _,Good.num _,Good.is _,trivial⟩ (E0.s.k (h1.s.k (h2.s.k (p2.s.k (p3.s.k (p4.s)))))) (A:=?A4) ?hA4 ?howe4 ?hfin4
   case hA4=>
    intro vs
    simp only[putAll,Act.put,sA,sZ,sS,Nat.zero_add,Nat.reduceAdd]
    exact rfl
   case howe4=>
    clear E0 h1 h2 p2 p3 p4
    intro hf
    refine⟨oP0 0 [] hf rfl,oE 1 [0] hf rfl ?_,oP0 2 [] hf rfl,oE 3 [2] hf rfl ?_,oE 4 [1,3] hf rfl ?_,oE 5 [4] hf rfl ?_,oE 6 [5] hf rfl ?_,oE 7 [5] hf rfl ?_,oE 8 [6] hf rfl ?_,oP1 9 [7] hf rfl,trivial⟩
    all_goals intro vs W hS hp hx KO hKO
    all_goals simp only[Act.put,sA,sZ,sS]at hKO
    ·have e0:=isOf hp.1;simp only[e0]at hKO;have fc1:=hS.1.2.2.2.1.cell1;go_simp;exact hKO _ W (.refl W) rfl
    ·have e2:=isOf hp.1;simp only[e2]at hKO;have fc1:=hS.1.2.2.2.2.1.cell1;go_simp;exact hKO _ W (.refl W) rfl
    ·have e1:=isOf hp.1;have e3:=isOf hp.2.1;simp only[e1,e3]at hKO;go_simp
     refine(Tryz.natSubGe (hS.1.2.1.num) (hS.1.2.2.1.num) s1 s2 hL HLE.out).mono ?_
     rintro e W1 ⟨v,rfl,hv,hE⟩
     exact hKO _ W1 hE ⟨_,rfl,hv⟩
    ·have q4:=hp.1
     obtain⟨u,ev,hu⟩:=q4
     replace ev:vs 4=_:=ev;simp only[ev]at hKO;go_simp;exact hKO _ W (Ext.refl W) ⟨u,rfl,hu⟩
    ·have q5:=hp.1
     obtain⟨u,ev,hu⟩:=q5
     replace ev:vs 5=_:=ev;simp only[ev]at hKO;go_simp;exact hKO _ W (Ext.refl W) hu
    ·have q5:=hp.1
     obtain⟨u,ev,hu⟩:=q5
     replace ev:vs 5=_:=ev;simp only[ev]at hKO;go_simp;exact hKO _ W (.refl W) rfl
    ·have q6:=hp.1;go_simp;exact hKO _ W (Ext.refl W) q6
   intro vs W4 hS hp
   clear szw4 E0 h1 h2 p2 p3 p4
   obtain⟨⟨E0,h1,h2,p2,p3,p4⟩,sz4⟩:=hS
   obtain⟨h4_0,h4_1,h4_2,h4_3,h4_4,h4_5,h4_6,h4_7,h4_8,h4_9,-⟩:=hp
   simp only[isOf h4_0,isOf h4_1,isOf h4_2,isOf h4_3,isOf h4_7,isOf h4_9]
   replace h4_6:Nw W4 (vs 6) (x.natAbs - y.natAbs):=h4_6
   generalize vs 6=u4_6 at h4_6 ⊢
   replace h4_8:Nw W4 (vs 8) (x.natAbs - y.natAbs):=h4_8
   generalize vs 8=u4_8 at h4_8 ⊢
   clear h4_0 h4_1 h4_2 h4_3 h4_7 h4_9 h4_4 h4_5
   obtain⟨k2a,k2b⟩:=p2.c2
   obtain⟨k3a,k3b⟩:=p3.c2
   obtain⟨k4a,k4b⟩:=p4.c2
   go_upto_region 5 with (fail)
   clear k2a k2b k3a k3b k4a k4b;have fp4:=p4.form;have szw5:=Ext.size E0
   refine region_gs [isV (.pointer (some ⟨w.heap.size,0,none⟩)),isV (.bool b1),isV (u4_8),
     .one fun v W=>Zw W v (x+y),
     .two 3 (fun r _ W=>At2 (w.heap.size+1+1) 43 r W)]
    (fun W=>Ext w W∧Zw W (.agg #[.bool b1,.slice a1 n1 c1]) x∧Zw W (.agg #[.bool b2,.slice a2 n2 c2]) y∧Bx2 W w.heap.size 43 (.bool b1) (.slice a1 n1 c1)∧Bx2 W (w.heap.size+1) 43 (.bool b2) (.slice a2 n2 c2)∧Form W (w.heap.size+1+1) 43 2∧Nw W u4_6 (x.natAbs - y.natAbs)∧Nw W u4_8 (x.natAbs - y.natAbs)∧W4.heap.size≤W.heap.size) ⟨Good.is _,Good.is _,Good.is _,Good.zed _,cert_at2,trivial⟩
    ⟨E0,h1,h2,p2,p3,fp4,h4_6,h4_8,Nat.le_refl _⟩ (A:=?A5) ?hA5 ?howe5 ?hfin5
   case hA5=>
    intro vs
    simp only[putAll,Act.put,sA,sZ,sS,Nat.zero_add,Nat.reduceAdd]
    exact rfl
   case howe5=>
    clear E0 h1 h2 p2 p3 fp4 h4_6 h4_8
    intro hf
    refine⟨oP0 0 [] hf rfl,oE 1 [0] hf rfl ?_,oP0 2 [] hf rfl,oE 3 [1,2] hf rfl ?_,oW 4 [3] hf rfl ?_,trivial⟩
    all_goals intro vs W hS hp hx KO hKO
    all_goals simp only[Act.put,sA,sZ,sS]at hKO
    ·have e0:=isOf hp.1;simp only[e0]at hKO;have fc0:=hS.2.2.2.1.cell0;go_simp;exact hKO _ W (.refl W) rfl
    ·have e1:=isOf hp.1;have e2:=isOf hp.2.1;simp only[e1,e2]at hKO;go_simp
     refine(Tryz.zedMade (hS.2.2.2.2.2.2.2.1) b1).mono ?_
     rintro e W1 ⟨v,rfl,hv,hE⟩
     rw[HS.out]at hv
     exact hKO _ W1 hE hv
    ·have q3:=hp.1
     have hf:=hS.2.2.2.2.2.1
     obtain⟨x0,y0,hx,hno⟩:=hf.bx2
     have qr:=q3
     obtain⟨b3,a3,n3,c3,er,-,-⟩:=qr
     replace er:vs 3=_:=er
     have r0:=hx.froz0
     have t0:=hx.cell0
     have r1:=hx.froz1
     have t1:=hx.cell1
     have hw:=Wr.set2 hx hno b3 a3 n3 c3
     have hq:=hx.set (.bool b3) (.slice a3 n3 c3)
     have hg:(w.heap.size+1+1)≤(w.heap.size+1+1):=Nat.le_refl _
     simp only[er]at hKO;go_simp
     exact hKO _ _ hw ⟨(Ext.wr hS.1 hw (by omega)),(hS.2.1.wr hw),(hS.2.2.1.wr hw),(hS.2.2.2.1.wr hw (by omega)),(hS.2.2.2.2.1.wr hw (by omega)),(hS.2.2.2.2.2.1.wr hw),(hS.2.2.2.2.2.2.1.wr hw),(hS.2.2.2.2.2.2.2.1.wr hw),(Nat.le_trans hS.2.2.2.2.2.2.2.2 hw.apart.size)⟩ ⟨b3,a3,n3,c3,er,hq⟩
   intro vs W5 hS hp
   clear szw5 E0 h1 h2 p2 p3 fp4 h4_6 h4_8
   obtain⟨E0,h1,h2,p2,p3,fp4,h4_6,h4_8,sz5⟩:=hS
   obtain⟨h5_0,h5_1,h5_2,h5_3,h5_4,-⟩:=hp
   obtain⟨b5_4,a5_4,n5_4,c5_4,er5_4,p5_4⟩:=h5_4
   replace er5_4:vs 3=_:=er5_4;replace h5_3:=(show Zw W5 (vs 3) (x+y) from h5_3)
   rw[er5_4]at h5_3
   simp only[er5_4,isOf h5_0,isOf h5_1,isOf h5_2]
   clear er5_4 h5_0 h5_1 h5_2
   obtain⟨k2a,k2b⟩:=p2.c2
   obtain⟨k3a,k3b⟩:=p3.c2
   obtain⟨k5_4a,k5_4b⟩:=p5_4.c2
   go_wp2
   exact bodyPost_ret (v:=.agg #[.bool b5_4,.slice a5_4 n5_4 c5_4]) (by simp[results,Tryz.results120,go_sem,k5_4a,k5_4b]) rfl ⟨_,rfl,h5_3,E0⟩
  ·have HS:Hid (sgn b2 (y.natAbs - x.natAbs)=x+y):=Lib.hid (by rw[sgn_add_diff hb2.out hb1.out (Ne.symm hb) (by omega),Int.add_comm])
   have HLE:Hid (x.natAbs≤y.natAbs):=Lib.hid (by omega)
   have HLT:Hid (x.natAbs < y.natAbs):=Lib.hid (by omega)
   clear hb1 hb2 hle
   obtain⟨W0,hW0,E0,p2,p3,p4⟩:=boxed3 w 43 #[.bool b1,.slice a1 n1 c1] 43 #[.bool b2,.slice a2 n2 c2] 43 #[.bool false,.slice none 0 0]
   replace p2:=p2.b2
   replace p3:=p3.b2
   replace p4:=p4.b2
   replace h1:Zw W0 (.agg #[.bool b1,.slice a1 n1 c1]) x:=h1.ext E0
   replace h2:Zw W0 (.agg #[.bool b2,.slice a2 n2 c2]) y:=h2.ext E0
   go_enter Tryz.func120,Tryz.ntmps120
   obtain⟨k2a,k2b⟩:=p2.c2
   obtain⟨k3a,k3b⟩:=p3.c2
   obtain⟨k4a,k4b⟩:=p4.c2
   go_upto_region 3 with (fail)
   rw[← hW0]
   clear hW0;clear k2a k2b k3a k3b k4a k4b;have ltp2:=p2.lt;have ltp3:=p3.lt;have ltp4:=p4.lt;have szw6:=Ext.size E0
   refine region_gk [isV (.pointer (some ⟨w.heap.size,1,none⟩)),isV (.slice a1 n1 c1),isV (.pointer (some ⟨w.heap.size+1,1,none⟩)),isV (.slice a2 n2 c2),
     .one fun v W=>∃ v',v=.tuple #[v',.int .i64 2]∧(fun _ _=>True) v' W,
     .one fun v W=>∃ v',v=.tuple #[v',.int .i64 2]∧(fun _ _=>True) v' W,
     .one fun _ _=>True,
     isV (.int .i64 2),
     .one fun _ _=>True,
     .one fun v _=>v=.int .i64 2] ⟨Good.is _,Good.is _,Good.is _,Good.is _,(Good.any).tup _,(Good.any).tup _,Good.any,Good.is _,Good.any,Good.is _,trivial⟩ (E0.s.k (h1.s.k (h2.s.k (p2.s.k (p3.s.k (p4.s)))))) (A:=?A6) ?hA6 ?howe6 ?hfin6
   case hA6=>
    intro vs
    simp only[putAll,Act.put,sA,sZ,sS,Nat.zero_add,Nat.reduceAdd]
    exact rfl
   case howe6=>
    clear E0 h1 h2 p2 p3 p4
    intro hf
    refine⟨oP0 0 [] hf rfl,oE 1 [0] hf rfl ?_,oP0 2 [] hf rfl,oE 3 [2] hf rfl ?_,oE 4 [1,3] hf rfl ?_,oE 5 [4] hf rfl ?_,oE 6 [5] hf rfl ?_,oE 7 [5] hf rfl ?_,oE 8 [6] hf rfl ?_,oP1 9 [7] hf rfl,trivial⟩
    all_goals intro vs W hS hp hx KO hKO
    all_goals simp only[Act.put,sA,sZ,sS]at hKO
    ·have e0:=isOf hp.1;simp only[e0]at hKO;have fc1:=hS.1.2.2.2.1.cell1;go_simp;exact hKO _ W (.refl W) rfl
    ·have e2:=isOf hp.1;simp only[e2]at hKO;have fc1:=hS.1.2.2.2.2.1.cell1;go_simp;exact hKO _ W (.refl W) rfl
    ·have e1:=isOf hp.1;have e3:=isOf hp.2.1;simp only[e1,e3]at hKO;go_simp
     refine(Tryz.natSubLt (hS.1.2.1.num) (hS.1.2.2.1.num) HLT.out).mono ?_
     rintro e W1 ⟨v,rfl,hE⟩
     exact hKO _ W1 hE ⟨_,rfl,trivial⟩
    ·have q4:=hp.1
     obtain⟨u,ev,hu⟩:=q4
     replace ev:vs 4=_:=ev;simp only[ev]at hKO;go_simp;exact hKO _ W (Ext.refl W) ⟨u,rfl,hu⟩
    ·have q5:=hp.1
     obtain⟨u,ev,hu⟩:=q5
     replace ev:vs 5=_:=ev;simp only[ev]at hKO;go_simp;exact hKO _ W (Ext.refl W) hu
    ·have q5:=hp.1
     obtain⟨u,ev,hu⟩:=q5
     replace ev:vs 5=_:=ev;simp only[ev]at hKO;go_simp;exact hKO _ W (.refl W) rfl
    ·have q6:=hp.1;go_simp;exact hKO _ W (Ext.refl W) q6
   intro vs W6 hS hp
   clear szw6 E0 h1 h2 p2 p3 p4
   obtain⟨⟨E0,h1,h2,p2,p3,p4⟩,sz6⟩:=hS
   obtain⟨h6_0,h6_1,h6_2,h6_3,h6_4,h6_5,h6_6,h6_7,h6_8,h6_9,-⟩:=hp
   simp only[isOf h6_0,isOf h6_1,isOf h6_2,isOf h6_3,isOf h6_7,isOf h6_9]
   clear h6_0 h6_1 h6_2 h6_3 h6_7 h6_9 h6_4 h6_5 h6_6 h6_8
   obtain⟨k2a,k2b⟩:=p2.c2
   obtain⟨k3a,k3b⟩:=p3.c2
   obtain⟨k4a,k4b⟩:=p4.c2
   go_upto_region 6 with (fail)
   clear k2a k2b k3a k3b k4a k4b;have szw7:=Ext.size E0
   refine region_gk [isV (.pointer (some ⟨w.heap.size+1,1,none⟩)),isV (.slice a2 n2 c2),isV (.pointer (some ⟨w.heap.size,1,none⟩)),isV (.slice a1 n1 c1),
     .one fun v W=>∃ v',v=.tuple #[v',.int .i64 0]∧(fun v W=>Nw W v (y.natAbs - x.natAbs)) v' W,
     .one fun v W=>∃ v',v=.tuple #[v',.int .i64 0]∧(fun v W=>Nw W v (y.natAbs - x.natAbs)) v' W,
     .one fun v W=>Nw W v (y.natAbs - x.natAbs),
     isV (.int .i64 0),
     .one fun v W=>Nw W v (y.natAbs - x.natAbs),
     .one fun v _=>v=.int .i64 0] ⟨Good.is _,Good.is _,Good.is _,Good.is _,(Good.num _).tup _,(Good.num _).tup _,Good.num _,Good.is _,Good.num _,Good.is _,trivial⟩ (E0.s.k (h1.s.k (h2.s.k (p2.s.k (p3.s.k (p4.s)))))) (A:=?A7) ?hA7 ?howe7 ?hfin7
   case hA7=>
    intro vs
    simp only[putAll,Act.put,sA,sZ,sS,Nat.zero_add,Nat.reduceAdd]
    exact rfl
   case howe7=>
    clear E0 h1 h2 p2 p3 p4
    intro hf
    refine⟨oP0 0 [] hf rfl,oE 1 [0] hf rfl ?_,oP0 2 [] hf rfl,oE 3 [2] hf rfl ?_,oE 4 [1,3] hf rfl ?_,oE 5 [4] hf rfl ?_,oE 6 [5] hf rfl ?_,oE 7 [5] hf rfl ?_,oE 8 [6] hf rfl ?_,oP1 9 [7] hf rfl,trivial⟩
    all_goals intro vs W hS hp hx KO hKO
    all_goals simp only[Act.put,sA,sZ,sS]at hKO
    ·have e0:=isOf hp.1;simp only[e0]at hKO;have fc1:=hS.1.2.2.2.2.1.cell1;go_simp;exact hKO _ W (.refl W) rfl
    ·have e2:=isOf hp.1;simp only[e2]at hKO;have fc1:=hS.1.2.2.2.1.cell1;go_simp;exact hKO _ W (.refl W) rfl
    ·have e1:=isOf hp.1;have e3:=isOf hp.2.1;simp only[e1,e3]at hKO;go_simp
     refine(Tryz.natSubGe (hS.1.2.2.1.num) (hS.1.2.1.num) s2 s1 hL HLE.out).mono ?_
     rintro e W1 ⟨v,rfl,hv,hE⟩
     exact hKO _ W1 hE ⟨_,rfl,hv⟩
    ·have q4:=hp.1
     obtain⟨u,ev,hu⟩:=q4
     replace ev:vs 4=_:=ev;simp only[ev]at hKO;go_simp;exact hKO _ W (Ext.refl W) ⟨u,rfl,hu⟩
    ·have q5:=hp.1
     obtain⟨u,ev,hu⟩:=q5
     replace ev:vs 5=_:=ev;simp only[ev]at hKO;go_simp;exact hKO _ W (Ext.refl W) hu
    ·have q5:=hp.1
     obtain⟨u,ev,hu⟩:=q5
     replace ev:vs 5=_:=ev;simp only[ev]at hKO;go_simp;exact hKO _ W (.refl W) rfl
    ·have q6:=hp.1;go_simp;exact hKO _ W (Ext.refl W) q6
   intro vs W7 hS hp
   clear szw7 E0 h1 h2 p2 p3 p4
   obtain⟨⟨E0,h1,h2,p2,p3,p4⟩,sz7⟩:=hS
   obtain⟨h7_0,h7_1,h7_2,h7_3,h7_4,h7_5,h7_6,h7_7,h7_8,h7_9,-⟩:=hp
   simp only[isOf h7_0,isOf h7_1,isOf h7_2,isOf h7_3,isOf h7_7,isOf h7_9]
   replace h7_6:Nw W7 (vs 6) (y.natAbs - x.natAbs):=h7_6
   generalize vs 6=u7_6 at h7_6 ⊢
   replace h7_8:Nw W7 (vs 8) (y.natAbs - x.natAbs):=h7_8
   generalize vs 8=u7_8 at h7_8 ⊢
   clear h7_0 h7_1 h7_2 h7_3 h7_7 h7_9 h7_4 h7_5
   obtain⟨k2a,k2b⟩:=p2.c2
   obtain⟨k3a,k3b⟩:=p3.c2
   obtain⟨k4a,k4b⟩:=p4.c2
   go_upto_region 7 with (fail)
   clear k2a k2b k3a k3b k4a k4b;have fp4:=p4.form;have szw8:=Ext.size E0
   refine region_gs [isV (.pointer (some ⟨w.heap.size+1,0,none⟩)),isV (.bool b2),isV (u7_8),
     .one fun v W=>Zw W v (x+y),
     .two 3 (fun r _ W=>At2 (w.heap.size+1+1) 43 r W)]
    (fun W=>Ext w W∧Zw W (.agg #[.bool b1,.slice a1 n1 c1]) x∧Zw W (.agg #[.bool b2,.slice a2 n2 c2]) y∧Bx2 W w.heap.size 43 (.bool b1) (.slice a1 n1 c1)∧Bx2 W (w.heap.size+1) 43 (.bool b2) (.slice a2 n2 c2)∧Form W (w.heap.size+1+1) 43 2∧Nw W u7_6 (y.natAbs - x.natAbs)∧Nw W u7_8 (y.natAbs - x.natAbs)∧W7.heap.size≤W.heap.size) ⟨Good.is _,Good.is _,Good.is _,Good.zed _,cert_at2,trivial⟩
    ⟨E0,h1,h2,p2,p3,fp4,h7_6,h7_8,Nat.le_refl _⟩ (A:=?A8) ?hA8 ?howe8 ?hfin8
   case hA8=>
    intro vs
    simp only[putAll,Act.put,sA,sZ,sS,Nat.zero_add,Nat.reduceAdd]
    exact rfl
   case howe8=>
    clear E0 h1 h2 p2 p3 fp4 h7_6 h7_8
    intro hf
    refine⟨oP0 0 [] hf rfl,oE 1 [0] hf rfl ?_,oP0 2 [] hf rfl,oE 3 [1,2] hf rfl ?_,oW 4 [3] hf rfl ?_,trivial⟩
    all_goals intro vs W hS hp hx KO hKO
    all_goals simp only[Act.put,sA,sZ,sS]at hKO
    ·have e0:=isOf hp.1;simp only[e0]at hKO;have fc0:=hS.2.2.2.2.1.cell0;go_simp;exact hKO _ W (.refl W) rfl
    ·have e1:=isOf hp.1;have e2:=isOf hp.2.1;simp only[e1,e2]at hKO;go_simp
     refine(Tryz.zedMade (hS.2.2.2.2.2.2.2.1) b2).mono ?_
     rintro e W1 ⟨v,rfl,hv,hE⟩
     rw[HS.out]at hv
     exact hKO _ W1 hE hv
    ·have q3:=hp.1
     have hf:=hS.2.2.2.2.2.1
     obtain⟨x0,y0,hx,hno⟩:=hf.bx2
     have qr:=q3
     obtain⟨b3,a3,n3,c3,er,-,-⟩:=qr
     replace er:vs 3=_:=er
     have r0:=hx.froz0
     have t0:=hx.cell0
     have r1:=hx.froz1
     have t1:=hx.cell1
     have hw:=Wr.set2 hx hno b3 a3 n3 c3
     have hq:=hx.set (.bool b3) (.slice a3 n3 c3)
     have hg:(w.heap.size+1+1)≤(w.heap.size+1+1):=Nat.le_refl _
     simp only[er]at hKO;go_simp
     exact hKO _ _ hw ⟨(Ext.wr hS.1 hw (by omega)),(hS.2.1.wr hw),(hS.2.2.1.wr hw),(hS.2.2.2.1.wr hw (by omega)),(hS.2.2.2.2.1.wr hw (by omega)),(hS.2.2.2.2.2.1.wr hw),(hS.2.2.2.2.2.2.1.wr hw),(hS.2.2.2.2.2.2.2.1.wr hw),(Nat.le_trans hS.2.2.2.2.2.2.2.2 hw.apart.size)⟩ ⟨b3,a3,n3,c3,er,hq⟩
   intro vs W8 hS hp
   clear szw8 E0 h1 h2 p2 p3 fp4 h7_6 h7_8
   obtain⟨E0,h1,h2,p2,p3,fp4,h7_6,h7_8,sz8⟩:=hS
   obtain⟨h8_0,h8_1,h8_2,h8_3,h8_4,-⟩:=hp
   obtain⟨b8_4,a8_4,n8_4,c8_4,er8_4,p8_4⟩:=h8_4
   replace er8_4:vs 3=_:=er8_4;replace h8_3:=(show Zw W8 (vs 3) (x+y) from h8_3)
   rw[er8_4]at h8_3
   simp only[er8_4,isOf h8_0,isOf h8_1,isOf h8_2]
   clear er8_4 h8_0 h8_1 h8_2
   obtain⟨k2a,k2b⟩:=p2.c2
   obtain⟨k3a,k3b⟩:=p3.c2
   obtain⟨k8_4a,k8_4b⟩:=p8_4.c2
   go_wp2
   exact bodyPost_ret (v:=.agg #[.bool b8_4,.slice a8_4 n8_4 c8_4]) (by simp[results,Tryz.results120,go_sem,k8_4a,k8_4b]) rfl ⟨_,rfl,h8_3,E0⟩
end Go.Rt
