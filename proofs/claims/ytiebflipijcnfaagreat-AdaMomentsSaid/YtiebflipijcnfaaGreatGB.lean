/-
  Contracts of the references' small functions on limbs: Right, Few, Of, Cmp, Same.
  Contracts of the references' halves, whole and at.
  Contracts of the references' sums, differences, products.
  The reference's product.
  Plain mathematics of binary figures, shifts and long division.
  Contracts of the references' Bits, power, bit, Shl.
  The reference's Shr.
  The reference's DivMod, Gcd, Goes.
  The reference's Gcd and Goes.
-/
import Derived.Test.YtiebflipijcnfaaGreatGA
namespace Go.Rt
open Go.RowKit Go.Proofs
def normB (xs:List Nat):Bool:=xs.length==0 || lg xs (xs.length - 1) != 0
theorem normB_iff {xs:List Nat}:normB xs=true↔Norm xs:=by simp[normB,Norm,lg]
theorem Tryz.refOf (x:Nat) (w:World) (hx:x < B64):
  Calls Tryz.prog 21 #[.int .u64 (x:Int)] w fun e w'=>∃ v',e=.returned v'∧Nw w' v' x∧Ext w w'∧Fr w v':=by
 have hl:=Nt.lit1 w x 61 hx
 go_enter Tryz.func21,Tryz.ntmps21
 go_wp2_with fail
 refine(Tryz.refBare hl (by simp)).mono ?_
 rintro e w' ⟨v',rfl,hn,hx,hf⟩
 go_wp2
 go_ret
 rw[ev_single]at hn
 exact⟨_,rfl,hn,(Ext.alloc1 _ _).trans hx,hf.back (Ext.alloc1 _ _)⟩
set_option maxHeartbeats 1000000 in
theorem Tryz.refCmp {v1 v2:Value} {N M:Nat} {w:World} (h1:Nw w v1 N) (h2:Nw w v2 M):
  Calls Tryz.prog 56 #[v1,v2] w fun e w'=>e=.returned (.int .i64 (cmpI N M))∧Ext w w':=by
 obtain⟨xs,⟨a1,b1,o1,c1,rfl,hs1,hl1⟩,hn1,rfl⟩:=h1
 obtain⟨ys,⟨a2,b2,o2,c2,rfl,hs2,hl2⟩,hn2,rfl⟩:=h2
 have hm1:=Nat.le_trans hs1.le hs1.max
 rcases Nat.lt_trichotomy xs.length ys.length with hlen | hlen | hlen
 ·have HR:=Lib.hid (cmpI_nat_lt (ev_lt_of_len B64_pos hl1 hn2 hlen))
  have h0:((xs.length:Int) != (ys.length:Int))=true:=by rw[bne_iff_ne];omega
  clear hs1 hs2
  go_enter Tryz.func56,Tryz.ntmps56
  go_wp2
  go_ret
  exact⟨ret_i HR.out.symm,Ext.refl _⟩
 ·have HL:=Lib.hid hlen
  have hk1:Hid (xs.drop (xs.length)=ys.drop (xs.length)):=Lib.hid (by rw[List.drop_eq_nil_of_le (Nat.le_refl _),List.drop_eq_nil_of_le (by omega)])
  have h0:((xs.length:Int) != (ys.length:Int))=false:=by rw[hlen];simp
  have hle:ys.length≤xs.length:=by omega
  have hge:xs.length≤ys.length:=by omega
  clear hlen
  go_enter Tryz.func56,Tryz.ntmps56
  go_wp2
  go_loopw [5] (fun i wr=>∃ k:Nat,k≤xs.length∧i=.int .i64 ((k:Int) - 1)∧Ext w wr∧Hid (xs.drop k=ys.drop k)) (fun i _=>(intOf i+1).toNat)
  case atStart=>exact⟨xs.length,Nat.le_refl _,rfl,Ext.refl _,hk1⟩
  case round=>
   obtain⟨k,hk,rfl,hE,hd⟩:=hrel
   rcases Nat.eq_zero_or_pos k with rfl | hpos
   ·have he:Hid (xs=ys):=Lib.hid (by have h:=hd.out;simpa using h)
    clear hs1 hs2
    go_wp2
    go_ret
    exact⟨ret_i (by rw[he.out,cmpI_eq rfl]),hE⟩
   ·obtain⟨j,rfl⟩:∃ j,k=j+1:=⟨k - 1,by omega⟩
    obtain rfl:a1=some ⟨b1,o1,none⟩:=hs1.addr (by omega)
    obtain rfl:a2=some ⟨b2,o2,none⟩:=hs2.addr (by omega)
    have hc1:=(hs1.ext hE).cell (i:=j) (by omega)
    have hc2:=(hs2.ext hE).cell (i:=j) (by omega)
    have ej:((j+1:Nat):Int) - 1=(j:Int):=by omega
    rw[ej]
    clear ej
    clear hs1 hs2
    rcases Nat.lt_trichotomy (lg xs j) (lg ys j)with hlt | heq | hgt
    ·have HR:=Lib.hid ((cmpI_at hl1 hl2 HL.out j (by omega) hd.out (by omega)).symm.trans (cmpI_nat_lt hlt))
     go_wp2
     go_quiet (fail)
     go_wp2
     go_ret
     exact⟨ret_i HR.out.symm,hE.drewN _⟩
    ·have hd2:Hid (xs.drop j=ys.drop j):=Lib.hid (by
      have h:=hd.out
      have e:=heq
      unfold lg at e
      rw[drop_cons (show j < xs.length by omega),drop_cons (show j < ys.length by omega),h,e])
     have h1:¬ lg xs j < lg ys j:=by omega
     have h2:¬ lg ys j < lg xs j:=by omega
     clear heq hd
     go_wp2
     go_quiet (fail)
     go_wp2
     go_quiet (fail)
     go_wp2
     go_roundw
     case rel=>exact⟨j,by omega,by first | rfl | go_num,hE.drewN _,hd2⟩
     case measure=>simp[intOf] <;> omega
    ·have HR:=Lib.hid ((cmpI_at hl1 hl2 HL.out j (by omega) hd.out (by omega)).symm.trans (cmpI_nat_gt hgt))
     have h1:¬ lg xs j < lg ys j:=by omega
     go_wp2
     go_quiet (fail)
     go_wp2
     go_quiet (fail)
     go_wp2
     go_ret
     exact⟨ret_i HR.out.symm,(hE.drewN _).drewN _⟩
 ·have HR:=Lib.hid (cmpI_nat_gt (ev_lt_of_len B64_pos hl2 hn1 hlen))
  have h0:((xs.length:Int) != (ys.length:Int))=true:=by rw[bne_iff_ne];omega
  clear hs1 hs2
  go_enter Tryz.func56,Tryz.ntmps56
  go_wp2
  go_ret
  exact⟨ret_i HR.out.symm,Ext.refl _⟩
end Go.Rt
namespace Go.Rt
open Go.RowKit Go.Proofs
def Hv (w:World) (v:Value) (l:List Nat):Prop:=Nt w v l∧Lim B32 l
theorem Hv.ext {w w':World} (h:Ext w w') {v:Value} {l:List Nat} (k:Hv w v l):Hv w' v l:=⟨k.1.ext h,k.2⟩
set_option maxHeartbeats 1000000 in
theorem Tryz.halves {v:Value} {xs:List Nat} {w:World} (h:Nt w v xs) (hlen:xs.length≤1073741824):
  Calls Tryz.prog 91 #[v] w fun e w'=>∃ v' l,e=.returned v'∧Hv w' v' l∧l.length=2*xs.length∧ev B32 l=ev B64 xs∧Ext w w':=by
 obtain⟨a,b,o,cap,rfl,hs,hl⟩:=h
 have hle:=hs.le
 have hmx:=hs.max
 go_enter Tryz.func91,Tryz.ntmps91
 go_wp2
 go_loopw [3,4] (fun v i wr=>∃ (k:Nat) (l:List Nat),k≤xs.length∧i=.int .i64 k∧Own wr w.heap.size 61 v l∧Lim B32 l∧Hid (l.length=2*k)∧Hid (ev B32 l=ev B64 (xs.take k))∧Ext w wr) (fun _ i _=>xs.length - (intOf i).toNat)
 case atStart=>exact⟨0,[],Nat.zero_le _,rfl,Own.lit w [] w.heap.size 61 (Nat.le_refl _) (Nat.zero_le _),Lim.nil _,Lib.hid rfl,Lib.hid rfl,Ext.alloc1 _ _⟩
 case round=>
  obtain⟨k,l,hk,rfl,hown,hlim,hll,hev,hE⟩:=hrel
  by_cases hlt:k < xs.length
  ·obtain rfl:a=some ⟨b,o,none⟩:=hs.addr (by omega)
   have hbb:=World.block_lt_of_cell? w _ (hs.cell (i:=k) hlt)
   dsimp only at hbb
   have hc:=(hs.ext hE).cell (i:=k) hlt
   have hk0:(0:Int)≤(k:Int):=by omega
   have hk1:(k:Int) < (xs.length:Int):=by omega
   have hEs:=hE.size
   have e1:=tmod32 (lg xs k)
   have e2:=wdiv32 (lg xs k) (lg_lt hl k)
   have hl1:l.length≤2*k:=by have:=hll.out;omega
   clear hs
   go_wp2
   go_region_held3 (fun w'=>w'.cell? ⟨b,o+k,none⟩=some (.int .u64 ((lg xs k:Nat):Int))) (first | go_keep | exact hgrow.cell ((Ext.alloc1 wr _).drew.cell hc) (fun e=>by have:=(hown.lt b e.symm).1;omega))
    ((refine step_new Tryz.underlying40 Tryz.infoU (by rfl) _ _ (by rfl) w.heap.size _ l [lg xs k % B32,lg xs k / B32] 2 wr.heap.size _ (by rfl) (by rfl) (hown.alloc _) (heap_last_drew wr _) rfl (by omega) rfl (by simp;omega) (by simp;omega) ?_;intro gg cap' w1 hown1 hgrow hat hgl))
   go_wp2
   go_roundw
   case rel=>
    refine⟨k+1,l++[lg xs k % B32,lg xs k / B32],by omega,by go_num,?_,?_,Lib.hid ?_,Lib.hid ?_,?_⟩
    ·exact hown1
    ·exact hlim.append (Lim.cons (half_lt (lg_lt hl k)).1 (Lim.cons (half_lt (lg_lt hl k)).2 (Lim.nil _)))
    ·have:=hll.out;simp;omega
    ·exact half_step hll.out hev.out hlt
    ·exact(hE.trans (Ext.alloc1 wr _).drew).grown hgrow (fun j e=>(hown.lt j e).1)
   case measure=>simp[intOf];omega
  ·obtain rfl:k=xs.length:=by omega
   clear hs
   go_wp2
   go_ret
   have he:=hev.out
   rw[List.take_length]at he
   exact⟨_,l,rfl,⟨hown.nt (hlim.mono (Nat.le_of_lt B32_lt)),hlim⟩,hll.out,he,hE⟩
theorem Tryz.at {v:Value} {l:List Nat} {w:World} (h:Hv w v l) (i:Nat):
  Calls Tryz.prog 93 #[v,.int .i64 (i:Int)] w fun e w'=>e=.returned (.int .u64 ((lg l i:Nat):Int))∧w=w':=by
 obtain⟨⟨a,b,o,cap,rfl,hs,hl⟩,hl2⟩:=h
 by_cases hlt:i < l.length
 ·obtain rfl:a=some ⟨b,o,none⟩:=hs.addr (by omega)
  have hc:=hs.cell (i:=i) hlt
  clear hs
  go_enter Tryz.func93,Tryz.ntmps93
  go_wp2
  go_ret
  exact⟨rfl,rfl⟩
 ·have H0:Hid (lg l i=0):=Lib.hid (by unfold lg;rw[List.getD_eq_getElem?_getD,List.getElem?_eq_none (by omega)];rfl)
  clear hs
  go_enter Tryz.func93,Tryz.ntmps93
  go_wp2
  go_ret
  exact⟨ret_i (by rw[H0.out];rfl),rfl⟩
set_option maxHeartbeats 1000000 in
theorem Tryz.whole {v:Value} {l:List Nat} {w:World} (h:Hv w v l) (hlen:l.length≤1073741824):
  Calls Tryz.prog 92 #[v] w fun e w'=>∃ v',e=.returned v'∧Nw w' v' (ev B32 l)∧Ext w w'∧Fr w v':=by
 obtain⟨⟨a,b,o,cap,rfl,hs,hl⟩,hl2⟩:=h
 have hle:=hs.le
 have hmx:=hs.max
 go_enter Tryz.func92,Tryz.ntmps92
 go_wp2
 go_loopw [3,4,5] (fun v i _ wr=>∃ (k:Nat) (xs:List Nat),i=.int .i64 ((2*k:Nat):Int)∧2*k≤l.length+1∧Own wr w.heap.size 61 v xs∧Lim B64 xs∧Hid (xs.length=k)∧xs.length≤k∧Hid (ev B64 xs=ev B32 (l.take (2*k)))∧Ext w wr) (fun _ i _ _=>l.length+1 - (intOf i).toNat)
 case atStart=>exact⟨0,[],rfl,by omega,Own.lit w [] w.heap.size 61 (Nat.le_refl _) (Nat.zero_le _),Lim.nil _,Lib.hid rfl,Nat.le_refl _,Lib.hid rfl,Ext.alloc1 _ _⟩
 case round=>
  obtain⟨k,xs,rfl,hk,hown,hlim,hxl,hxk,hev,hE⟩:=hrel
  have hEs:=hE.size
  by_cases hlt:2*k < l.length
  ·obtain rfl:a=some ⟨b,o,none⟩:=hs.addr (by omega)
   have hc:=(hs.ext hE).cell (i:=2*k) hlt
   by_cases hlt2:2*k+1 < l.length
   ·have hc2:=(hs.ext hE).cell (i:=2*k+1) hlt2
    have hb1:lg l (2*k) < B32:=hl2.getD B32_pos _
    have hb2:lg l (2*k+1) < B32:=hl2.getD B32_pos _
    clear hs
    have hv:IntKind.u64.wrap (((lg l (2*k):Nat):Int)+IntKind.u64.wrap (((lg l (2*k+1):Nat):Int)*4294967296))=((lg l (2*k)+lg l (2*k+1)*B32:Nat):Int):=by
     have h:=whole_lt hb1 hb2
     rw[wmul32 _ (by omega),wadd _ _ h]
    have HV:=Lib.hid hv;clear hv
    go_wp2_with (at_builtin;refine append_one Tryz.underlying41 Tryz.infoU rfl _ _ rfl w.heap.size _ xs (lg l (2*k)+lg l (2*k+1)*B32) _ (by rfl) (by rfl) hown HV.out (by omega) hEs ?_;intro v' w1 hown1 hgrow)
    go_roundw
    case rel=>
     refine⟨k+1,xs++[lg l (2*k)+lg l (2*k+1)*B32],by go_num,by omega,hown1,hlim.snoc (whole_lt hb1 hb2),Lib.hid ?_,?_,Lib.hid ?_,?_⟩
     ·have:=hxl.out;simp;omega
     ·simp;omega
     ·exact whole_step2 hxl.out hev.out hlt2
     ·exact(hE.trans (Ext.alloc1 wr _)).grown hgrow (fun j e=>(hown.lt j e).1)
    case measure=>simp[intOf];omega
   ·have hb1:lg l (2*k) < B64:=lg_lt hl _
    have hlast:2*k+1=l.length:=by omega
    have HLS:=Lib.hid hlast;clear hlast
    clear hs
    go_wp2_with (at_builtin;refine append_one Tryz.underlying41 Tryz.infoU rfl _ _ rfl w.heap.size _ xs (lg l (2*k)) _ (by rfl) (by rfl) hown rfl (by omega) hEs ?_;intro v' w1 hown1 hgrow)
    go_roundw
    case rel=>
     have hls:=HLS.out
     refine⟨k+1,xs++[lg l (2*k)],by go_num,by omega,hown1,hlim.snoc hb1,Lib.hid ?_,?_,Lib.hid ?_,?_⟩
     ·have:=hxl.out;simp;omega
     ·simp;omega
     ·rw[List.take_of_length_le (by omega)];exact whole_step1 hxl.out hev.out hls
     ·exact(hE.trans (Ext.alloc1 wr _)).grown hgrow (fun j e=>(hown.lt j e).1)
    case measure=>have hls:=HLS.out;simp[intOf];omega
  ·clear hs
   go_wp2_with (go_at_call 50;refine(Tryz.refBare (hown.nt hlim) (by omega)).mono ?_;rintro e w' ⟨v',rfl,hn,hx,hf⟩)
   go_ret
   have he:=hev.out
   rw[List.take_of_length_le (by omega)]at he
   rw[he]at hn
   exact⟨_,rfl,hn,hE.trans hx,hf.back hE⟩
end Go.Rt
namespace Go.Rt
open Go.RowKit Go.Proofs
set_option maxHeartbeats 1000000 in
theorem Tryz.refAdd {v1 v2:Value} {N M L:Nat} {w:World} (h1:Nw w v1 N) (h2:Nw w v2 M) (s1:Sm L N) (s2:Sm L M) (hL:L≤10000000):
  Calls Tryz.prog 54 #[v1,v2] w fun e w'=>∃ v',e=.returned v'∧Nw w' v' (N+M)∧Ext w w'∧Fr w v':=by
 obtain⟨xs,t1,n1,rfl,l1⟩:=h1.lens s1
 obtain⟨ys,t2,n2,rfl,l2⟩:=h2.lens s2
 clear h1 h2 n1 n2 s1 s2
 go_enter Tryz.func54,Tryz.ntmps54
 go_wp2_with fail
 refine(Tryz.halves t1 (by omega)).mono ?_
 rintro e w1 ⟨v1',x,rfl,hx,hxl,hxe,hE1⟩
 have HX:=Lib.hid hxl;have HXE:=Lib.hid hxe
 have t2:=t2.ext hE1
 have lx:x.length≤2*xs.length:=by omega
 clear hxl hxe
 go_wp2_with fail
 refine(Tryz.halves t2 (by omega)).mono ?_
 rintro e w2 ⟨v2',y,rfl,hy,hyl,hye,hE2⟩
 have HY:=Lib.hid hyl;have HYE:=Lib.hid hye
 have hx:=hx.ext hE2
 have ly:y.length≤2*ys.length:=by omega
 clear hyl hye t1 t2
 obtain⟨⟨a1,b1,o1,c1,rfl,hs1,hl1⟩,hx2⟩:=hx
 obtain⟨⟨a2,b2,o2,c2,rfl,hs2,hl2⟩,hy2⟩:=hy
 have hx':Hv w2 (.slice a1 x.length c1) x:=⟨⟨a1,b1,o1,c1,rfl,hs1,hl1⟩,hx2⟩
 have hy':Hv w2 (.slice a2 y.length c2) y:=⟨⟨a2,b2,o2,c2,rfl,hs2,hl2⟩,hy2⟩
 have hE:=hE1.trans hE2
 clear hs1 hs2 hE1 hE2
 go_wp2_with fail
 go_loopw [7,8,9,10] (fun v c i _ wr=>∃ (k cc:Nat) (l:List Nat),i=.int .i64 (k:Int)∧c=.int .u64 (cc:Int)∧k≤max x.length y.length+1∧cc≤1∧Own wr w2.heap.size 61 v l∧Lim B32 l∧l.length≤k∧Hid (l.length=k)∧Hid (ev B32 l+B32^k*cc=ev B32 (x.take k)+ev B32 (y.take k))∧Ext w2 wr) (fun _ _ i _ _=>max x.length y.length+1 - (intOf i).toNat)
 case atStart=>exact⟨0,0,[],rfl,rfl,by omega,by omega,Own.lit w2 [] w2.heap.size 61 (Nat.le_refl _) (Nat.zero_le _),Lim.nil _,Nat.le_refl _,Lib.hid rfl,Lib.hid rfl,Ext.alloc1 _ _⟩
 case round=>
  obtain⟨k,cc,l,rfl,rfl,hk,hc,hown,hlim,hll,HLL,hev,hEr⟩:=hrel
  have hEs:=hEr.size
  have hEs0:=hE.size
  have bx:lg x k < B32:=hx2.getD B32_pos _
  have by':lg y k < B32:=hy2.getD B32_pos _
  by_cases hlt:k < max x.length y.length+1
  ·obtain⟨n,hn⟩:∃ n:Nat,n=lg x k+lg y k+cc:=⟨_,rfl⟩
   have hv:IntKind.u64.wrap (IntKind.u64.wrap (((lg x k:Nat):Int)+((lg y k:Nat):Int))+(cc:Int))=(n:Int):=by
    rw[B32_eq]at bx by'
    rw[wadd _ _ (by rw[B64_eq];omega),wadd _ _ (by rw[B64_eq];omega),hn]
   have hnlt:n < 2*B32:=by omega
   have HN:=Lib.hid hn;clear hn bx by'
   have hltI:(k:Int) < max (x.length:Int) (y.length:Int)+1:=by omega
   go_wp2_with (first | (go_at_call 93;first | ((with_reducible refine(Tryz.at (hx'.ext hEr) k).mono ?_);rintro e w' ⟨rfl,rfl⟩) | ((with_reducible refine(Tryz.at (hy'.ext hEr) k).mono ?_);rintro e w' ⟨rfl,rfl⟩)) | (at_builtin;go_loud (refine append_one Tryz.underlying40 Tryz.infoU rfl _ _ rfl w2.heap.size _ l (n % B32) _ (by rfl) (by rfl) hown (by rfl) (by omega) (by omega) ?_);intro v' w3 hown1 hgrow))
   go_roundw
   case rel=>
    have hn:=HN.out
    have hb:B32=4294967296:=rfl
    have hn64:n < B64:=by rw[B64_eq];omega
    refine⟨k+1,n / B32,l++[n % B32],by go_num,congrArg (Value.int .u64) (wdiv32 n hn64),by omega,by rw[hb];omega,hown1,hlim.snoc (Nat.mod_lt _ B32_pos),by simp;omega,Lib.hid ?_,Lib.hid ?_,?_⟩
    ·have:=HLL.out;simp;omega
    ·rw[hn];exact add_step HLL.out hev.out
    ·exact(hEr.trans (Ext.alloc1 wr _)).grown hgrow (fun j e=>(hown.lt j e).1)
   case measure=>simp[intOf];omega
  ·clear bx by'
   have hltI:¬ (k:Int) < max (x.length:Int) (y.length:Int)+1:=by omega
   have hkm:k=max x.length y.length+1:=by omega
   have hfin:ev B32 l=ev B64 xs+ev B64 ys:=by
    have h:=hev.out
    rw[hkm]at h
    rw[add_end (by decide) hx2 hy2 (by omega) (by omega) h,HXE.out,HYE.out]
   have HF:=Lib.hid hfin;clear hfin hkm
   go_wp2_with (go_at_call 92;refine(Tryz.whole ⟨hown.nt (hlim.mono (Nat.le_of_lt B32_lt)),hlim⟩ (by omega)).mono ?_;rintro e w' ⟨v',rfl,hn,hx3,hf⟩)
   all_goals go_ret
   all_goals rw[HF.out]at hn
   all_goals exact⟨_,rfl,hn,(hE.trans hEr).trans hx3,hf.back (hE.trans hEr)⟩
def subE (N M:Nat):Int:=if N < M then 2 else 0
theorem wsub32 {p q c:Nat} (hp:p < B32) (hq:q < B32) (hc:c≤1):
  IntKind.u64.wrap (IntKind.u64.wrap (IntKind.u64.wrap (4294967296+(p:Int)) - (q:Int)) - (c:Int))=((B32+p - q - c:Nat):Int):=by
 rw[B32_eq]at *
 simp only[IntKind.wrap_u64]
 omega
theorem wborrow {d:Nat} (hd:d≤1):IntKind.u64.wrap (1 - (d:Int))=((1 - d:Nat):Int):=by
 simp only[IntKind.wrap_u64];omega
set_option maxHeartbeats 1000000 in
theorem Tryz.refSub {v1 v2:Value} {N M L:Nat} {w:World} (h1:Nw w v1 N) (h2:Nw w v2 M) (s1:Sm L N) (s2:Sm L M) (hL:L≤10000000):
  Calls Tryz.prog 57 #[v1,v2] w fun e w'=>∃ v',e=.returned (.tuple #[v',.int .i64 (subE N M)])∧Nw w' v' (N - M)∧Ext w w'∧Fr w v':=by
 by_cases hlt:N < M
 ·have hc:(cmpI N M) < 0:=cmpI_neg.2 (by omega)
  have HS:Hid (subE N M=2):=Lib.hid (if_pos hlt)
  have H0:Hid (N - M=0):=Lib.hid (by omega)
  clear hlt
  go_enter Tryz.func57,Tryz.ntmps57
  go_wp2_with (go_at_call 56;refine(Tryz.refCmp h1 h2).mono ?_;rintro e w1 ⟨rfl,hE⟩)
  go_ret2
  rw[H0.out,HS.out]
  exact⟨_,rfl,Nw.nil _,hE,Fr.nil _⟩
 ·have hc:¬ (cmpI N M) < 0:=fun h=>hlt (by have:=cmpI_neg.1 h;omega)
  have HS:Hid (subE N M=0):=Lib.hid (if_neg hlt)
  have hMN:M≤N:=by omega
  clear hlt
  go_enter Tryz.func57,Tryz.ntmps57
  go_wp2_with fail
  refine(Tryz.refCmp h1 h2).mono ?_
  rintro e w0 ⟨rfl,hE0⟩
  replace h1:=h1.ext hE0
  replace h2:=h2.ext hE0
  obtain⟨xs,t1,n1,rfl,l1⟩:=h1.lens s1
  obtain⟨ys,t2,n2,rfl,l2⟩:=h2.lens s2
  have lyx:ys.length≤xs.length:=by
   rcases Nat.lt_or_ge xs.length ys.length with h | h
   ·have:=ev_lt_of_len B64_pos t1.lim n2 h;omega
   ·exact h
  clear h1 h2 n1 n2 s1 s2
  have HMN:=Lib.hid hMN;clear hMN
  go_wp2_with fail
  refine(Tryz.halves t1 (by omega)).mono ?_
  rintro e w1 ⟨v1',x,rfl,hx,hxl,hxe,hE1⟩
  have HX:=Lib.hid hxl;have HXE:=Lib.hid hxe
  have t2:=t2.ext hE1
  have lx:x.length≤2*xs.length:=by omega
  clear hxl hxe
  go_wp2_with fail
  refine(Tryz.halves t2 (by omega)).mono ?_
  rintro e w2 ⟨v2',y,rfl,hy,hyl,hye,hE2⟩
  have HY:=Lib.hid hyl;have HYE:=Lib.hid hye
  have hx:=hx.ext hE2
  have ly:y.length≤x.length:=by have:=HX.out;omega
  clear hyl hye t1 t2
  obtain⟨⟨a1,b1,o1,c1,rfl,hs1,hl1⟩,hx2⟩:=hx
  obtain⟨⟨a2,b2,o2,c2,rfl,hs2,hl2⟩,hy2⟩:=hy
  have hy':Hv w2 (.slice a2 y.length c2) y:=⟨⟨a2,b2,o2,c2,rfl,hs2,hl2⟩,hy2⟩
  have hm1:=hs1.max
  have hle1:=hs1.le
  have hE:=hE0.trans (hE1.trans hE2)
  clear hs2 hE1 hE2 hE0
  go_wp2_with fail
  go_loopw [8,9,10,11] (fun v c i _ wr=>∃ (k cc:Nat) (l:List Nat),i=.int .i64 (k:Int)∧c=.int .u64 (cc:Int)∧k≤x.length∧cc≤1∧Own wr w2.heap.size 61 v l∧Lim B32 l∧l.length≤k∧Hid (l.length=k)∧Hid (ev B32 l+ev B32 (y.take k)=ev B32 (x.take k)+B32^k*cc)∧Ext w2 wr) (fun _ _ i _ _=>x.length - (intOf i).toNat)
  case atStart=>exact⟨0,0,[],rfl,rfl,by omega,by omega,Own.lit w2 [] w2.heap.size 61 (Nat.le_refl _) (Nat.zero_le _),Lim.nil _,Nat.le_refl _,Lib.hid rfl,Lib.hid rfl,Ext.alloc1 _ _⟩
  case round=>
   obtain⟨k,cc,l,rfl,rfl,hk,hc',hown,hlim,hll,HLL,hev,hEr⟩:=hrel
   have hEs:=hEr.size
   have bx:lg x k < B32:=hx2.getD B32_pos _
   have by':lg y k < B32:=hy2.getD B32_pos _
   by_cases hlt:k < x.length
   ·obtain rfl:a1=some ⟨b1,o1,none⟩:=hs1.addr (by omega)
    have hcell:=(hs1.ext hEr).cell hlt
    obtain⟨n,hn⟩:∃ n:Nat,n=B32+lg x k - lg y k - cc:=⟨_,rfl⟩
    have hv:IntKind.u64.wrap (IntKind.u64.wrap (IntKind.u64.wrap (4294967296+((lg x k:Nat):Int)) - ((lg y k:Nat):Int)) - (cc:Int))=(n:Int):=by rw[wsub32 bx by' hc',hn]
    obtain⟨d,hd⟩:∃ d:Nat,d=n / B32:=⟨_,rfl⟩
    have hstep:=sub_step B32_pos HLL.out hc' bx by' hev.out hn
    rw[← hd]at hstep
    have hnB:n < B64:=by rw[hn,B64_eq];rw[B32_eq]at *;omega
    have hdv:IntKind.u64.wrap ((n:Int) / 4294967296)=(d:Int):=by rw[hd];exact wdiv32 n hnB
    have hdb:=wborrow hstep.2.2
    have HN:=Lib.hid hn;have HD:=Lib.hid hd;have HSt:=Lib.hid hstep.1
    have hd1:=hstep.2.2
    have hk0:(0:Int)≤(k:Int):=by omega
    have hkI:(k:Int) < (x.length:Int):=by omega
    clear hn hd hstep hnB
    go_wp2
    go_quiet ((go_at_call 93;exact quiet_same (Tryz.at ((hy'.ext hEr).ext (Ext.drewN (Ext.refl _) _)) k)))
    go_wp2_with (at_builtin;go_loud (refine append_one Tryz.underlying40 Tryz.infoU rfl _ _ rfl w2.heap.size _ l (n % B32) _ (by rfl) (by rfl) hown (by rfl) (by omega) (by first | omega | exact hEs) ?_);intro v' w3 hown1 hgrow)
    go_roundw
    case rel=>
     refine⟨k+1,1 - d,l++[n % B32],by go_num,rfl,by omega,by omega,hown1,hlim.snoc (Nat.mod_lt _ B32_pos),by simp;omega,Lib.hid ?_,Lib.hid ?_,?_⟩
     ·have:=HLL.out;simp;omega
     ·exact HSt.out
     ·exact(hEr.trans ((Ext.alloc1 wr _).drewN _)).grown hgrow (fun j e=>(hown.lt j e).1)
    case measure=>simp[intOf];omega
   ·clear bx by'
    obtain rfl:k=x.length:=by omega
    have hfin:ev B32 l=ev B64 xs - ev B64 ys:=by
     rw[← HXE.out,← HYE.out]
     exact sub_end hlim HLL.out ly (by rw[HXE.out,HYE.out];exact HMN.out) hev.out
    have HF:=Lib.hid hfin;clear hfin hs1
    go_wp2_with (go_at_call 92;refine(Tryz.whole ⟨hown.nt (hlim.mono (Nat.le_of_lt B32_lt)),hlim⟩ (by omega)).mono ?_;rintro e w' ⟨v',rfl,hn,hx3,hf⟩)
    all_goals go_ret2
    all_goals rw[HF.out]at hn
    all_goals exact⟨_,by rw[HS.out];rfl,hn,(hE.trans hEr).trans hx3,hf.back (hE.trans hEr)⟩
end Go.Rt
namespace Go.Rt
open Go.RowKit Go.Proofs
set_option maxHeartbeats 2000000 in
theorem Tryz.refMul {v1 v2:Value} {N M L1 L2:Nat} {w:World} (h1:Nw w v1 N) (h2:Nw w v2 M) (s1:Sm L1 N) (s2:Sm L2 M) (hL:L1+L2≤10000000):
  Calls Tryz.prog 48 #[v1,v2] w fun e w'=>∃ v',e=.returned v'∧Nw w' v' (N*M)∧Ext w w'∧Fr w v':=by
 obtain⟨xs,t1,n1,rfl,l1⟩:=h1.lens s1
 obtain⟨ys,t2,n2,rfl,l2⟩:=h2.lens s2
 clear h1 h2 n1 n2 s1 s2
 go_enter Tryz.func48,Tryz.ntmps48
 go_wp2_with fail
 refine(Tryz.halves t1 (by omega)).mono ?_
 rintro e w1 ⟨v1',x,rfl,hx,hxl,hxe,hE1⟩
 have HX:=Lib.hid hxl;have HXE:=Lib.hid hxe
 have t2:=t2.ext hE1
 have lx:x.length≤2*xs.length:=by omega
 clear hxl hxe
 go_wp2_with fail
 refine(Tryz.halves t2 (by omega)).mono ?_
 rintro e w2 ⟨v2',y,rfl,hy,hyl,hye,hE2⟩
 have HY:=Lib.hid hyl;have HYE:=Lib.hid hye
 have hx:=hx.ext hE2
 have ly:y.length≤2*ys.length:=by omega
 clear hyl hye t1 t2
 obtain⟨⟨a1,b1,o1,c1,rfl,hs1,hl1⟩,hx2⟩:=hx
 obtain⟨⟨a2,b2,o2,c2,rfl,hs2,hl2⟩,hy2⟩:=hy
 have hm1:=hs1.max
 have hle1:=hs1.le
 have hm2:=hs2.max
 have hle2:=hs2.le
 have hE:=hE1.trans hE2
 clear hE1 hE2
 go_wp2_with (at_make;go_loud (refine make_full Tryz.underlying40 Tryz.infoU rfl _ _ rfl w2.heap.size (x.length+y.length+1) _ _ (by rfl) (by rfl) (by omega) (by omega) (by omega) (by omega) ?_);intro w3 hown0 hgrow0)
 have hE3:Ext w2 w3:=(Ext.refl w2).grown hgrow0 (fun k e=>by cases e)
 go_loopw [8,9,10,11] (fun i _ _ _ wr=>∃ (k:Nat) (out:List Nat),i=.int .i64 (k:Int)∧k≤x.length∧Own wr w2.heap.size 61 (.slice (some ⟨w2.heap.size,0,none⟩) (x.length+y.length+1) (x.length+y.length+1)) out∧Lim B32 out∧Hid (out.length=x.length+y.length+1)∧Hid (∀ j,k+y.length≤j→out.getD j 0=0)∧Hid (ev B32 out=ev B32 (x.take k)*ev B32 y)∧Ext w2 wr) (fun i _ _ _ _=>x.length - (intOf i).toNat)
 case atStart=>exact⟨0,_,rfl,by omega,hown0,Lim.zeros B32_pos _,Lib.hid (by simp),Lib.hid (fun j _=>by simp[List.getElem?_replicate];split <;> simp),Lib.hid (by rw[ev_zeros];simp),hE3⟩
 case round=>
  obtain⟨i,out,rfl,hi,hown,hlim,hlen,hz,hev,hEr⟩:=hrel
  by_cases hlt:i < x.length
  ·obtain rfl:a1=some ⟨b1,o1,none⟩:=hs1.addr (by omega)
   have bx:lg x i < B32:=hx2.getD B32_pos _
   go_wp2_with fail
   go_loopw [9,10,11] (fun c q _ wq=>∃ (k cc:Nat) (ou:List Nat),q=.int .i64 (k:Int)∧c=.int .u64 (cc:Int)∧k≤y.length∧cc < B32∧Own wq w2.heap.size 61 (.slice (some ⟨w2.heap.size,0,none⟩) (x.length+y.length+1) (x.length+y.length+1)) ou∧Lim B32 ou∧Hid (ou.length=x.length+y.length+1)∧Hid (∀ j,i+y.length≤j→ou.getD j 0=0)∧Hid (ev B32 ou+B32^(i+k)*cc=ev B32 (x.take i)*ev B32 y+B32^i*(x.getD i 0*ev B32 (y.take k)))∧Ext w2 wq) (fun _ q _ _=>y.length - (intOf q).toNat)
   case atStart=>exact⟨0,0,out,rfl,rfl,by omega,B32_pos,hown,hlim,hlen,hz,Lib.hid (by rw[hev.out];simp),hEr⟩
   case round=>
    obtain⟨k,cc,ou,rfl,rfl,hk,hcc,hown2,hlim2,hlen2,hz2,hev2,hEq⟩:=hrel
    by_cases hlk:k < y.length
    ·obtain rfl:a2=some ⟨b2,o2,none⟩:=hs2.addr (by omega)
     have hcx:=(hs1.ext hEq).cell hlt
     have hcy:=(hs2.ext hEq).cell hlk
     have hco:=hown2.cellAt (i:=i+k) (by rw[hlen2.out];omega)
     have hfo:=hown2.frozenAt (i+k)
     have bo:lg ou (i+k) < B32:=hlim2.getD B32_pos _
     have by':lg y k < B32:=hy2.getD B32_pos _
     obtain⟨n,hn⟩:∃ n:Nat,n=lg ou (i+k)+lg x i*lg y k+cc:=⟨_,rfl⟩
     have hnB:=mul_lt bo bx by' hcc hn
     rw[← B64_sq]at hnB
     have hv:IntKind.u64.wrap (IntKind.u64.wrap (((lg ou (i+k):Nat):Int)+IntKind.u64.wrap (((lg x i:Nat):Int)*((lg y k:Nat):Int)))+(cc:Int))=(n:Int):=by
      rw[wmul _ _ (by omega),wadd _ _ (by omega),wadd _ _ (by omega),hn]
     obtain⟨d,hd⟩:∃ d:Nat,d=n / B32:=⟨_,rfl⟩
     have hdv:IntKind.u64.wrap ((n:Int) / 4294967296)=(d:Int):=by rw[hd];exact wdiv32 n hnB.1
     have hd1:d < B32:=by rw[hd];exact hnB.2
     have HN:=Lib.hid hn;have HD:=Lib.hid hd
     have hi0:(0:Int)≤(i:Int):=by omega
     have hiI:(i:Int) < (x.length:Int):=by omega
     have hk0:(0:Int)≤(k:Int):=by omega
     have hkI:(k:Int) < (y.length:Int):=by omega
     clear hn hd hnB hs1 hs2
     go_wp2
     go_quiet (fail)
     go_wp2
     go_roundw
     case rel=>
      refine⟨k+1,d,ou.set (i+k) (n % B32),by go_num,rfl,by omega,hd1,?_,hlim2.set (Nat.mod_lt _ B32_pos) _,Lib.hid (by rw[List.length_set];exact hlen2.out),Lib.hid (fun j hj=>?_),Lib.hid ?_,?_⟩
      ·exact Own.stored (xs:=ou) (w:=wr.drewN nq) hown2 (i+k) (n % B32) rfl
      ·rw[getD_set_ne (by omega)];exact hz2.out j hj
      ·have h:=mul_step (by rw[hlen2.out];omega) hev2.out HN.out
       rw[← HD.out]at h
       exact h
      ·exact(hEq.drewN _).setCell (Nat.le_refl _) _
     case measure=>simp[intOf];omega
    ·obtain rfl:k=y.length:=by omega
     have hco:=hown2.cellAt (i:=i+y.length) (by rw[hlen2.out];omega)
     have hfo:=hown2.frozenAt (i+y.length)
     clear hs1 hs2
     go_wp2
     go_roundw
     case rel=>
      have hl:=hlen2.out
      refine⟨i+1,ou.set (i+y.length) cc,by go_num,by omega,?_,hlim2.set hcc _,Lib.hid (by rw[List.length_set];exact hl),Lib.hid (fun j hj=>?_),Lib.hid ?_,?_⟩
      ·exact Own.stored (xs:=ou) hown2 (i+y.length) cc rfl
      ·rw[getD_set_ne (by omega)];exact hz2.out j (by omega)
      ·exact mul_row (by omega) (hz2.out _ (Nat.le_refl _)) hev2.out
      ·exact hEq.setCell (Nat.le_refl _) _
     case measure=>simp[intOf];omega
  ·obtain rfl:i=x.length:=by omega
   have hfin:ev B32 out=ev B64 xs*ev B64 ys:=by
    have h:=hev.out
    rw[List.take_length]at h
    rw[h,HXE.out,HYE.out]
   have HF:=Lib.hid hfin
   have hol:out.length≤x.length+y.length+1:=by rw[hlen.out];omega
   have hn0:Nt wr (.slice (some ⟨w2.heap.size,0,none⟩) (x.length+y.length+1) (x.length+y.length+1)) out:=hown.nt (hlim.mono (Nat.le_of_lt B32_lt))
   clear hfin hs1 hs2
   go_wp2_with (go_at_call 92;refine(Tryz.whole ⟨hn0,hlim⟩ (by omega)).mono ?_;rintro e w' ⟨v',rfl,hn,hx3,hf⟩)
   go_ret
   rw[HF.out]at hn
   exact⟨_,rfl,hn,(hE.trans hEr).trans hx3,hf.back (hE.trans hEr)⟩
end Go.Rt
namespace Go.Rt
def bl (N:Nat):Nat:=if N=0 then 0 else N.log2+1
theorem bl_lt (N:Nat):N < 2^bl N:=by
 unfold bl
 split
 ·subst_vars;decide
 ·exact Nat.lt_log2_self
theorem bl_ge {N:Nat} (h:N≠0):2^(bl N - 1)≤N∧0 < bl N:=by
 unfold bl
 rw[if_neg h]
 exact⟨Nat.log2_self_le h,by omega⟩
theorem bl_unique {N k:Nat} (h1:N < 2^(k+1)) (h2:2^k≤N):bl N=k+1:=by
 have hne:N≠0:=by have:=Nat.two_pow_pos k;omega
 have a:=bl_lt N
 obtain⟨b,c⟩:=bl_ge hne
 have d1:k < bl N:=(Nat.pow_lt_pow_iff_right (a:=2) (by omega)).1 (Nat.lt_of_le_of_lt h2 a)
 have d2:bl N - 1 < k+1:=(Nat.pow_lt_pow_iff_right (a:=2) (by omega)).1 (Nat.lt_of_le_of_lt b h1)
 omega
theorem bl_le_iff (N k:Nat):bl N≤k↔N < 2^k:=by
 constructor
 ·intro h;exact Nat.lt_of_lt_of_le (bl_lt N) (Nat.pow_le_pow_right (by omega) h)
 ·intro h
  rcases Nat.eq_zero_or_pos N with rfl | hp
  ·simp[bl]
  ·obtain⟨b,c⟩:=bl_ge (N:=N) (by omega)
   have:bl N - 1 < k:=(Nat.pow_lt_pow_iff_right (a:=2) (by omega)).1 (Nat.lt_of_le_of_lt b h)
   omega
theorem bl_half {N:Nat} (h:0 < N):bl N=bl (N / 2)+1:=by
 rcases Nat.eq_zero_or_pos (N / 2)with h0 | hp
 ·have:N=1:=by omega
  subst this;decide
 ·obtain⟨b,c⟩:=bl_ge (N:=N / 2) (by omega)
  have a:=bl_lt (N / 2)
  refine bl_unique (k:=bl (N / 2)) ?_ ?_
  ·rw[Nat.pow_succ];omega
  ·rw[show bl (N / 2)=bl (N / 2) - 1+1 from by omega,Nat.pow_succ];omega
theorem bl_mono {N M:Nat} (h:N≤M):bl N≤bl M:=(bl_le_iff _ _).2 (Nat.lt_of_le_of_lt h (bl_lt M))
theorem bl_sm {N L:Nat} (h:Sm L N):bl N≤64*L:=by
 rw[bl_le_iff]
 unfold Sm at h
 rwa [B64_two,← Nat.pow_mul]at h
theorem pow64 (k:Nat):B64^k=2^(64*k):=by rw[B64_two,← Nat.pow_mul]
theorem bl_ev {xs:List Nat} {k:Nat} (hl:Lim B64 xs) (hn:Norm xs) (hk:xs.length=k+1):bl (ev B64 xs)=64*k+bl (xs.getD k 0)∧0 < xs.getD k 0:=by
 have hne:xs.getD k 0≠0:=by
  rcases hn with h | h
  ·omega
  ·rwa [show xs.length - 1=k from by omega]at h
 have e:=ev_take_succ (b:=B64) (xs:=xs) (k:=k) (by omega)
 rw[show k+1=xs.length from hk.symm,List.take_length]at e
 have hlt:=ev_lt (hl.take k)
 rw[List.length_take,Nat.min_eq_left (by omega)]at hlt
 obtain⟨a,c⟩:=bl_ge hne
 have b:=bl_lt (xs.getD k 0)
 refine⟨?_,by omega⟩
 rw[show 64*k+bl (xs.getD k 0)=(64*k+(bl (xs.getD k 0) - 1))+1 from by omega]
 generalize xs.getD k 0=t at *
 rw[pow64]at e hlt
 refine bl_unique ?_ ?_
 ·rw[show 64*k+(bl t - 1)+1=64*k+bl t from by omega,Nat.pow_add,e]
  have h2:2^(64*k)*(t+1)≤2^(64*k)*2^bl t:=Nat.mul_le_mul_left _ b
  rw[Nat.mul_add,Nat.mul_one]at h2
  omega
 ·rw[Nat.pow_add,e]
  have h2:2^(64*k)*2^(bl t - 1)≤2^(64*k)*t:=Nat.mul_le_mul_left _ a
  omega
theorem limb_div {xs:List Nat} (hl:Lim B64 xs) (k:Nat):xs.getD k 0=ev B64 xs / B64^k % B64:=by
 rcases Nat.lt_or_ge k xs.length with h | h
 ·have e:=ev_split (b:=B64) xs k (by omega)
  rw[drop_cons h,ev_cons]at e
  have hlt:=ev_lt (hl.take k)
  rw[List.length_take,Nat.min_eq_left (by omega)]at hlt
  rw[e,Nat.add_mul_div_left _ _ (Nat.pow_pos B64_pos),Nat.div_eq_of_lt hlt,Nat.zero_add,Nat.add_mul_mod_self_left,Nat.mod_eq_of_lt (hl.getD B64_pos k)]
 ·rw[Nat.div_eq_of_lt (Nat.lt_of_lt_of_le (ev_lt hl) (Nat.pow_le_pow_right B64_pos h)),Nat.zero_mod,List.getD_eq_getElem?_getD,List.getElem?_eq_none h];rfl
theorem bit_div {xs:List Nat} (hl:Lim B64 xs) (i:Nat):xs.getD (i / 64) 0 / 2^(i % 64) % 2=ev B64 xs / 2^i % 2:=by
 rw[limb_div hl,pow64]
 generalize ev B64 xs=N
 rw[B64_two]
 have h1:N / 2^(64*(i / 64)) % 2^64 / 2^(i % 64)=N / 2^(64*(i / 64)) / 2^(i % 64) % 2^(64 - i % 64):=by
  have hp:2^64=2^(i % 64)*2^(64 - i % 64):=by rw[← Nat.pow_add];congr 1;omega
  rw[hp,Nat.mod_mul_right_div_self]
 rw[h1,Nat.div_div_eq_div_mul,← Nat.pow_add,show 64*(i / 64)+i % 64=i from Nat.div_add_mod i 64]
 rw[Nat.mod_mod_of_dvd]
 exact⟨2^(63 - i % 64),by rw[← Nat.pow_succ'];congr 1;omega⟩
/-! long division, bit by bit: I binary figures are still to come -/
def qp (N M I:Nat):Nat:=N / 2^I / M
def qrow (N M I:Nat):Nat:=B64^(I / 64)*(qp N M I / 2^(64 - I % 64)*B64+qp N M I % 2^(64 - I % 64))
theorem half_bit (N i:Nat):N / 2^i=2*(N / 2^(i+1))+N / 2^i % 2:=by
 rw[Nat.pow_succ,← Nat.div_div_eq_div_mul];omega
theorem div_bit {N M i r:Nat} (hM:0 < M) (hr:r=N / 2^(i+1) % M):
  (2*r+N / 2^i % 2 < M→N / 2^i % M=2*r+N / 2^i % 2∧qp N M i=2*qp N M (i+1)) ∧
  (M≤2*r+N / 2^i % 2→N / 2^i % M=2*r+N / 2^i % 2 - M∧qp N M i=2*qp N M (i+1)+1):=by
 have h:=half_bit N i
 unfold qp
 generalize N / 2^i=T at *
 generalize N / 2^(i+1)=S at *
 have hS:=Nat.div_add_mod S M
 rw[← hr]at hS
 have hrM:r < M:=by rw[hr];exact Nat.mod_lt _ hM
 generalize S / M=q at *
 have hb:T % 2 < 2:=Nat.mod_lt _ (by omega)
 generalize T % 2=c at *
 have e:T=M*(2*q)+(2*r+c):=by
  rw[h,← hS,Nat.mul_left_comm M 2 q];omega
 constructor
 ·intro hlt
  rw[e]
  constructor
  ·rw[Nat.mul_add_mod,Nat.mod_eq_of_lt hlt]
  ·rw[Nat.mul_add_div hM,Nat.div_eq_of_lt hlt,Nat.add_zero]
 ·intro hge
  have e2:T=M*(2*q+1)+(2*r+c - M):=by rw[e,Nat.mul_add M (2*q) 1];omega
  rw[e2]
  constructor
  ·rw[Nat.mul_add_mod,Nat.mod_eq_of_lt (by omega)]
  ·rw[Nat.mul_add_div hM,Nat.div_eq_of_lt (by omega),Nat.add_zero]
theorem qrow_bit {N M i d v:Nat} {q:List Nat} (hd:d < 2) (hq:qp N M i=2*qp N M (i+1)+d) (hi:i / 64 < q.length)
  (h1:q.getD ((i+1) / 64) 0=qp N M (i+1) % 2^(64 - (i+1) % 64)) (h2:∀ j,j < (i+1) / 64→q.getD j 0=0) (h3:ev B64 q=qrow N M (i+1))
  (hv:v=2*q.getD (i / 64) 0+d):
  v < B64∧(q.set (i / 64) v).getD (i / 64) 0=qp N M i % 2^(64 - i % 64)∧ev B64 (q.set (i / 64) v)=qrow N M i:=by
 have hs:=ev_set B64 q (i / 64) v hi
 rw[getD_set_eq hi]
 unfold qrow at *
 generalize qp N M i=Q at *
 generalize qp N M (i+1)=P at *
 subst hq
 by_cases hm:(i+1) % 64=0
 ·have e1:(i+1) / 64=i / 64+1:=by omega
  have e2:i % 64=63:=by omega
  have hz:q.getD (i / 64) 0=0:=h2 _ (by omega)
  rw[hz]at hv hs
  rw[hm,e1]at h3
  rw[e2]
  rw[h3]at hs
  have hv':v=d:=by omega
  subst hv'
  refine⟨by rw[B64_eq];omega,by simp;omega,?_⟩
  have e3:(2*P+v) / 2=P:=by omega
  have e4:(2*P+v) % 2=v:=by omega
  simp only[show 64 - 63=1 from rfl,Nat.pow_one,e3,e4]
  rw[Nat.mul_zero,Nat.add_zero,← B64_two,Nat.mul_comm (P / B64) B64,Nat.div_add_mod]at hs
  rw[hs,Nat.pow_succ,Nat.mul_add,Nat.mul_comm P B64,Nat.mul_assoc]
 ·have e1:(i+1) / 64=i / 64:=by omega
  have e2:(i+1) % 64=i % 64+1:=by omega
  rw[e1,e2]at h1
  rw[e1,e2]at h3
  obtain⟨e,he⟩:∃ e,64 - (i % 64+1)=e:=⟨_,rfl⟩
  have he':64 - i % 64=e+1:=by omega
  rw[he]at h1 h3
  rw[he']
  have p1:2^(e+1)=2*2^e:=by rw[Nat.pow_succ];omega
  have pp:=Nat.two_pow_pos e
  have hdm:=Nat.div_add_mod P (2^e)
  have hlt:=Nat.mod_lt P pp
  have hdiv:(2*P+d) / 2^(e+1)=P / 2^e:=by
   rw[p1,← Nat.div_div_eq_div_mul];congr 1;omega
  have hmod:(2*P+d) % 2^(e+1)=2*(P % 2^e)+d:=by
   have:=Nat.div_add_mod (2*P+d) (2^(e+1))
   rw[hdiv]at this
   rw[p1,Nat.mul_assoc]at this
   rw[p1]
   generalize 2^e=E at *
   generalize P / E=A at *
   generalize P % E=Bm at *
   omega
  rw[hdiv,hmod]
  rw[h1]at hv hs
  refine⟨?_,hv,?_⟩
  ·have:2^(e+1)≤2^64:=Nat.pow_le_pow_right (by omega) (by omega)
   rw[B64_two]
   omega
  ·rw[h3,Nat.mul_add]at hs
   rw[← hv,Nat.mul_add]
   omega
theorem qrow_zero (N M:Nat):qrow N M 0=N / M:=by
 unfold qrow qp
 simp only[Nat.zero_div,Nat.pow_zero,Nat.one_mul,Nat.zero_mod,Nat.sub_zero,Nat.div_one]
 rw[← B64_two,Nat.mul_comm,Nat.div_add_mod]
theorem qp_start {N M I:Nat} (h:N / 2^I < M):qp N M I=0∧N / 2^I % M=N / 2^I∧qrow N M I=0:=by
 have e:qp N M I=0:=Nat.div_eq_of_lt h
 refine⟨e,Nat.mod_eq_of_lt h,?_⟩
 unfold qrow;rw[e];simp
theorem start_lt {N M:Nat} (hM:M≠0) (h:bl M≤bl N):N / 2^(bl N - bl M+1) < M:=by
 obtain⟨b,c⟩:=bl_ge hM
 refine Nat.lt_of_lt_of_le ?_ b
 rw[Nat.div_lt_iff_lt_mul (Nat.two_pow_pos _),← Nat.pow_add]
 have:bl M - 1+(bl N - bl M+1)=bl N:=by omega
 rw[this];exact bl_lt N
/-! shifts down -/
theorem shr_limb {xs:List Nat} (hl:Lim B64 xs) (i b:Nat) (hb:b < 64):
  (xs.getD i 0+B64*xs.getD (i+1) 0) / 2^b % B64=ev B64 xs / 2^(64*i+b) % B64:=by
 rw[limb_div hl i,limb_div hl (i+1),show B64^(i+1)=B64^i*B64 from rfl,← Nat.div_div_eq_div_mul,show 2^(64*i+b)=B64^i*2^b from by rw[Nat.pow_add,pow64],← Nat.div_div_eq_div_mul]
 generalize ev B64 xs / B64^i=X
 have h1:=Nat.mod_add_div X B64
 have h2:=Nat.mod_add_div (X / B64) B64
 obtain⟨c,hc⟩:∃ c,B64=2^b*c:=⟨2^(64 - b),by rw[← Nat.pow_add,B64_two];congr 1;omega⟩
 generalize X % B64=p at *
 generalize X / B64 % B64=q at *
 generalize X / B64 / B64=z at *
 have e:X=(p+B64*q)+2^b*(c*(B64*z)):=by
  rw[← Nat.mul_assoc (2^b) c,← hc,← h1,← h2,Nat.mul_add];omega
 rw[e,Nat.add_mul_div_left _ _ (Nat.two_pow_pos b),Nat.mul_left_comm c,Nat.add_mul_mod_self_left]
theorem shr_step {N n m d:Nat} {l:List Nat} (hll:l.length=m) (he:ev B64 l=N / 2^n % B64^m) (hd:d=N / 2^(64*m+n) % B64):
  ev B64 (l++[d])=N / 2^n % B64^(m+1):=by
 rw[ev_snoc,hll,he,hd,Nat.mod_pow_succ,Nat.div_div_eq_div_mul,pow64,← Nat.pow_add,Nat.add_comm n]
theorem shr_end {xs:List Nat} {n i:Nat} (hl:Lim B64 xs) (h1:n / 64≤i) (h2:xs.length≤i):ev B64 xs / 2^n % B64^(i - n / 64)=ev B64 xs / 2^n:=by
 apply Nat.mod_eq_of_lt
 rw[Nat.div_lt_iff_lt_mul (Nat.two_pow_pos _),pow64,← Nat.pow_add]
 refine Nat.lt_of_lt_of_le (ev_lt hl) ?_
 rw[pow64]
 exact Nat.pow_le_pow_right (by omega) (by omega)
theorem shr_half {x y T k:Nat} (h:x+B64*y=T / 2^k) (hx:x < B64):
  (x / 2+y % 2*9223372036854775808)+B64*(y / 2)=T / 2^(k+1)∧x / 2+y % 2*9223372036854775808 < B64:=by
 rw[Nat.pow_succ,← Nat.div_div_eq_div_mul,← h]
 rw[B64_eq]at *
 omega
/-! shifts up -/
theorem shl_fig {x c b:Nat} (hx:x < B64) (hc:c < 2^b) (hb:b < 64):
  (x*2^b % B64+c)+B64*(x / 2^(64 - b))=x*2^b+c∧x*2^b % B64+c < B64∧x / 2^(64 - b) < 2^b∧x*2^b % B64=(x % 2^(64 - b))*2^b:=by
 have hB:B64=2^(64 - b)*2^b:=by rw[← Nat.pow_add,B64_two];congr 1;omega
 have e1:x*2^b % B64=(x % 2^(64 - b))*2^b:=by rw[hB,Nat.mul_mod_mul_right]
 have hm:=Nat.mod_add_div x (2^(64 - b))
 have hlt:=Nat.mod_lt x (Nat.two_pow_pos (64 - b))
 rw[e1,hB]
 rw[hB]at hx
 have hd:x / 2^(64 - b) < 2^b:=Nat.div_lt_of_lt_mul hx
 generalize x / 2^(64 - b)=q at *
 generalize x % 2^(64 - b)=r at *
 generalize 2^(64 - b)=E at *
 generalize 2^b=D at *
 have h1:(r+1)*D≤E*D:=Nat.mul_le_mul_right _ hlt
 rw[Nat.add_mul,Nat.one_mul]at h1
 refine⟨?_,by omega,hd,rfl⟩
 rw[← hm,Nat.add_mul,Nat.mul_right_comm E q D];omega
theorem shl_step {xs l:List Nat} {k j c y d:Nat} (hll:l.length=k / 64+j) (he:ev B64 l+B64^(k / 64+j)*c=ev B64 (xs.take j)*2^k)
  (hy:y+B64*d=xs.getD j 0*2^(k % 64)+c):ev B64 (l++[y])+B64^(k / 64+(j+1))*d=ev B64 (xs.take (j+1))*2^k:=by
 rw[ev_snoc,hll,ev_take_succ',Nat.add_mul,← he]
 have h1:B64^(k / 64+j)*(y+B64*d)=B64^(k / 64+j)*(xs.getD j 0*2^(k % 64)+c):=by rw[hy]
 rw[Nat.mul_add,Nat.mul_add,← Nat.mul_assoc,show B64^(k / 64+j)*B64=B64^(k / 64+(j+1)) from rfl]at h1
 have h2:B64^j*xs.getD j 0*2^k=B64^(k / 64+j)*(xs.getD j 0*2^(k % 64)):=by
  have e:2^k=B64^(k / 64)*2^(k % 64):=by rw[pow64,← Nat.pow_add,Nat.div_add_mod]
  rw[e,Nat.pow_add,Nat.mul_assoc (B64^j),Nat.mul_left_comm (xs.getD j 0),← Nat.mul_assoc,Nat.mul_comm (B64^j)]
 omega
theorem shl_end {xs l:List Nat} {k c m:Nat} (hll:l.length=m) (he:ev B64 l+B64^m*c=ev B64 (xs.take xs.length)*2^k):ev B64 (l++[c])=ev B64 xs*2^k:=by
 rw[List.take_length]at he
 rw[ev_snoc,hll,he]
end Go.Rt
namespace Go.Rt
open Go.RowKit Go.Proofs
set_option maxHeartbeats 1000000 in
theorem Tryz.refBits {v:Value} {N L:Nat} {w:World} (h:Nw w v N) (s:Sm L N) (hL:L≤10000000):
  Calls Tryz.prog 52 #[v] w fun e w'=>e=.returned (.int .i64 ((bl N:Nat):Int))∧w=w':=by
 obtain⟨xs,⟨a,b,o,cap,rfl,hs,hl⟩,hn,rfl,l1⟩:=h.lens s
 have hmx:=hs.max
 have hle:=hs.le
 rcases Nat.eq_zero_or_pos xs.length with h0 | hp
 ·have hx:xs=[]:=List.eq_nil_of_length_eq_zero h0
  subst hx
  have H:Hid (bl (ev B64 [])=0):=Lib.hid rfl
  clear hs h s
  go_enter Tryz.func52,Tryz.ntmps52
  go_wp2
  go_ret
  exact⟨ret_i (by rw[H.out];rfl),rfl⟩
 ·obtain⟨k,hk⟩:∃ k,xs.length=k+1:=⟨xs.length - 1,by omega⟩
  obtain rfl:a=some ⟨b,o,none⟩:=hs.addr hp
  have hc:=hs.cell (i:=xs.length - 1) (by omega)
  obtain⟨hbl,hpos⟩:=bl_ev hl hn hk
  have HB:=Lib.hid hbl
  have hsub:xs.length - 1=k:=by omega
  have h64:lg xs k < B64:=lg_lt hl k
  rw[hsub]at hc
  have h0':((xs.length:Int)==0)=false:=beq_eq_false_iff_ne.2 (by omega)
  rw[hk]at h0'
  have hkc:((k+1:Nat):Int)=(k:Int)+1:=by omega
  rw[hkc]at h0'
  obtain⟨n,rfl⟩:∃ n,n=xs.length:=⟨_,rfl⟩
  rw[hk]
  have hkL:k≤L:=by omega
  clear hbl hs h s hn hk hsub hp hkc
  go_enter Tryz.func52,Tryz.ntmps52
  go_wp2
  go_loop [3,4] (fun m t=>∃ (mm tt:Nat),m=.int .i64 (mm:Int)∧t=.int .u64 (tt:Int)∧tt < B64∧mm+bl tt=64*k+bl (lg xs k)) (fun _ t=>(intOf t).toNat)
  case atStart=>exact⟨64*k,lg xs k,by go_num,rfl,h64,rfl⟩
  case round=>
   obtain⟨mm,tt,rfl,rfl,htt,hsum⟩:=hrel
   have HS:=Lib.hid hsum
   have hb64:bl (lg xs k)≤64:=by rw[bl_le_iff,← B64_two];exact h64
   have hmm:mm≤64*k+64:=by omega
   by_cases h0:0 < tt
   ·have hh:=bl_half h0
    have HH:=Lib.hid hh
    have hwd:IntKind.u64.wrap ((tt:Int) / 2)=((tt / 2:Nat):Int):=wrap_u64 (tt / 2) (Nat.lt_of_le_of_lt (Nat.div_le_self _ _) htt)
    have HW:=Lib.hid hwd
    clear hsum hh hb64 hwd
    go_wp2
    go_round
    case rel=>exact⟨mm+1,tt / 2,by go_num,congrArg (Value.int .u64) HW.out,Nat.lt_of_le_of_lt (Nat.div_le_self _ _) htt,by have:=HS.out;have:=HH.out;omega⟩
    case measure=>rw[HW.out];simp[intOf];omega
   ·have:tt=0:=by omega
    subst this
    have HF:Hid (bl (ev B64 xs)=mm):=Lib.hid (by rw[HB.out];exact hsum.symm)
    clear hsum hb64
    go_wp2
    go_ret
    exact⟨ret_i (by rw[HF.out]),rfl⟩
theorem pow_row {n:Nat}:ev B64 ((List.replicate (n / 64+1) 0).set (n / 64) (2^(n % 64)))=2^n∧Norm ((List.replicate (n / 64+1) 0).set (n / 64) (2^(n % 64))):=by
 have hlt:n / 64 < (List.replicate (n / 64+1) 0).length:=by simp
 have h:=ev_set B64 (List.replicate (n / 64+1) 0) (n / 64) (2^(n % 64)) hlt
 have hg:=getD_set_eq (v:=2^(n % 64)) hlt
 constructor
 ·rw[ev_zeros,Nat.zero_add,pow64,← Nat.pow_add,Nat.div_add_mod]at h
  have hz:(List.replicate (n / 64+1) 0).getD (n / 64) 0=0:=by simp
  rw[hz,Nat.mul_zero,Nat.add_zero]at h
  exact h
 ·right
  rw[List.length_set,List.length_replicate,Nat.add_sub_cancel,hg]
  have:=Nat.two_pow_pos (n % 64)
  omega
theorem pow_lim {n:Nat}:Lim B64 ((List.replicate (n / 64+1) 0).set (n / 64) (2^(n % 64))):=
 (Lim.zeros B64_pos _).set (by rw[B64_two];exact Nat.pow_lt_pow_right (by omega) (by omega)) _
set_option maxHeartbeats 1000000 in
theorem Tryz.power (n:Nat) (w:World) (hn:n≤1000000):
  Calls Tryz.prog 49 #[.int .i64 (n:Int)] w fun e w'=>∃ v',e=.returned v'∧Nw w' v' (2^n)∧Ext w w'∧Fr w v':=by
 have hpr:=@pow_row n
 have hpl:=@pow_lim n
 have HPR:=Lib.hid hpr;have HPL:=Lib.hid hpl
 clear hpr hpl
 go_enter Tryz.func49,Tryz.ntmps49
 go_wp2_with (at_make;go_loud (refine make_full Tryz.underlying41 Tryz.infoU rfl _ _ rfl w.heap.size (n / 64+1) _ _ (by rfl) (by rfl) (by omega) (by omega) (by omega) (by omega) ?_);intro w1 hown hgrow)
 have hE1:Ext w w1:=(Ext.refl w).grown hgrow (fun k e=>by cases e)
 have hcell:=hown.cellAt (i:=n / 64) (by simp)
 have hfr:=hown.frozenAt (n / 64)
 go_loop [4,5] (fun o i=>∃ k:Nat,i=.int .i64 (k:Int)∧k≤n % 64∧o=.int .u64 ((2^k:Nat):Int)) (fun _ i=>n % 64 - (intOf i).toNat)
 case atStart=>exact⟨0,rfl,by omega,rfl⟩
 case round=>
  obtain⟨k,rfl,hk,rfl⟩:=hrel
  obtain⟨p,hp⟩:∃ p:Nat,p=2^k:=⟨_,rfl⟩
  rw[← hp]
  have HP:=Lib.hid hp
  by_cases hlt:k < n % 64
  ·have hp64:p*2 < B64:=by
    rw[hp,← Nat.pow_succ,B64_two];exact Nat.pow_lt_pow_right (by omega) (by omega)
   have hw:IntKind.u64.wrap ((p:Int)*2)=((p*2:Nat):Int):=wmul p 2 hp64
   have HW:=Lib.hid hw
   clear hp hp64 hw hown hgrow
   go_wp2
   go_round
   case rel=>exact⟨k+1,by go_num,by omega,by rw[HW.out,HP.out,Nat.pow_succ]⟩
   case measure=>simp[intOf];omega
  ·obtain rfl:k=n % 64:=by omega
   have hst:=Own.stored hown (n / 64) p rfl
   clear hp hown hgrow
   go_wp2
   go_ret
   rw[HP.out]at *
   exact⟨_,rfl,⟨_,Own.nt hst HPL.out,HPR.out.2,HPR.out.1⟩,hE1.setCell (Nat.le_refl _) _,Fr.at (Nat.le_refl _)⟩
theorem Tryz.bit {v:Value} {xs:List Nat} {w:World} (h:Nt w v xs) (i:Nat) (hi:i / 64 < xs.length) (hib:i≤1000000000):
  Calls Tryz.prog 55 #[v,.int .i64 (i:Int)] w fun e w'=>e=.returned (.int .u64 ((ev B64 xs / 2^i % 2:Nat):Int))∧w=w':=by
 obtain⟨a,b,o,cap,rfl,hs,hl⟩:=h
 obtain rfl:a=some ⟨b,o,none⟩:=hs.addr (by omega)
 have hc:=hs.cell hi
 have HB:=Lib.hid (bit_div hl i)
 have hx:=lg_lt hl (i / 64)
 have hmx:=hs.max
 have hle:=hs.le
 clear hs
 go_enter Tryz.func55,Tryz.ntmps55
 go_wp2
 go_loop [5,6] (fun t j=>∃ k:Nat,j=.int .i64 (k:Int)∧k≤i % 64∧t=.int .u64 ((lg xs (i / 64) / 2^k:Nat):Int)) (fun _ j=>i % 64 - (intOf j).toNat)
 case atStart=>exact⟨0,rfl,by omega,by simp⟩
 case round=>
  obtain⟨k,rfl,hk,rfl⟩:=hrel
  obtain⟨p,hp⟩:∃ p:Nat,p=lg xs (i / 64) / 2^k:=⟨_,rfl⟩
  rw[← hp]
  have HP:=Lib.hid hp
  have hp64:p < B64:=by rw[hp];exact Nat.lt_of_le_of_lt (Nat.div_le_self _ _) hx
  by_cases hlt:k < i % 64
  ·have hw:IntKind.u64.wrap ((p:Int) / 2)=((p / 2:Nat):Int):=wrap_u64 (p / 2) (Nat.lt_of_le_of_lt (Nat.div_le_self _ _) hp64)
   have HW:=Lib.hid hw
   clear hp hw
   go_wp2
   go_round
   case rel=>exact⟨k+1,by go_num,by omega,by rw[HW.out,HP.out,Nat.div_div_eq_div_mul,Nat.pow_succ]⟩
   case measure=>simp[intOf];omega
  ·obtain rfl:k=i % 64:=by omega
   clear hp
   go_wp2
   go_ret
   refine⟨ret_i ?_,rfl⟩
   have h:=HB.out
   have h2:=HP.out
   unfold lg at h2
   rw[← h2]at h
   have h3:((p % 2:Nat):Int)=((ev B64 xs / 2^i % 2:Nat):Int):=by rw[h]
   simpa using h3
def shE (n:Int):Int:=if n < 0∨20000 < n then 1 else 0
def shlV (N:Nat) (n:Int):Nat:=if n < 0∨20000 < n then 0 else N*2^n.toNat
def shrV (N:Nat) (n:Int):Nat:=if n < 0∨20000 < n then 0 else N / 2^n.toNat
theorem Tryz.refShl {v:Value} {N L:Nat} {w:World} (h:Nw w v N) (s:Sm L N) (hL:L≤1000000) (n:Int):
  Calls Tryz.prog 20 #[v,.int .i64 n] w fun e w'=>∃ v',e=.returned (.tuple #[v',.int .i64 (shE n)])∧Nw w' v' (shlV N n)∧Ext w w'∧Fr w v':=by
 by_cases hr:n < 0∨20000 < n
 ·have H1:Hid (shE n=1):=Lib.hid (if_pos hr)
  have H2:Hid (shlV N n=0):=Lib.hid (if_pos hr)
  rcases hr with hr | hr
  ·go_enter Tryz.func20,Tryz.ntmps20
   go_wp2
   go_ret2
   exact⟨_,by rw[H1.out];rfl,by rw[H2.out];exact Nw.nil _,Ext.refl _,Fr.nil _⟩
  ·have hr0:¬ n < 0:=by omega
   go_enter Tryz.func20,Tryz.ntmps20
   go_wp2
   go_ret2
   exact⟨_,by rw[H1.out];rfl,by rw[H2.out];exact Nw.nil _,Ext.refl _,Fr.nil _⟩
 ·have H1:Hid (shE n=0):=Lib.hid (if_neg hr)
  have H2:Hid (shlV N n=N*2^n.toNat):=Lib.hid (if_neg hr)
  have hr0:¬ n < 0:=by omega
  have hr1:¬ 20000 < n:=by omega
  obtain⟨k,rfl⟩:=Int.eq_ofNat_of_zero_le (show 0≤n by omega)
  have hk:k≤20000:=by omega
  clear hr
  go_enter Tryz.func20,Tryz.ntmps20
  go_wp2_with fail
  refine(Tryz.power k _ (by omega)).mono ?_
  rintro e w1 ⟨v1,rfl,hp,hE1,_⟩
  go_wp2_with fail
  refine(Tryz.refMul (h.ext hE1) hp s (Sm.pow2 k) (by omega)).mono ?_
  rintro e w2 ⟨v2,rfl,hq,hE2,hf⟩
  go_wp2
  go_ret2
  rw[H2.out,H1.out]
  exact⟨_,rfl,hq,hE1.trans hE2,hf.back hE1⟩
end Go.Rt
namespace Go.Rt
open Go.RowKit Go.Proofs
theorem shr_val {x y:Nat} (hx:x < B64):IntKind.u64.wrap (IntKind.u64.wrap ((x:Int) / 2)+((y:Int) % 2)*9223372036854775808)=((x / 2+y % 2*9223372036854775808:Nat):Int):=by
 rw[B64_eq]at hx
 simp only[IntKind.wrap_u64]
 omega
set_option maxHeartbeats 2000000 in
theorem Tryz.refShr {v:Value} {N L:Nat} {w:World} (h:Nw w v N) (s:Sm L N) (hL:L≤10000000) (n:Int):
  Calls Tryz.prog 53 #[v,.int .i64 n] w fun e w'=>∃ v',e=.returned (.tuple #[v',.int .i64 (shE n)])∧Nw w' v' (shrV N n)∧Ext w w'∧Fr w v':=by
 by_cases hr:n < 0∨20000 < n
 ·have H1:Hid (shE n=1):=Lib.hid (if_pos hr)
  have H2:Hid (shrV N n=0):=Lib.hid (if_pos hr)
  rcases hr with hr | hr
  ·go_enter Tryz.func53,Tryz.ntmps53
   go_wp2
   go_ret2
   exact⟨_,by rw[H1.out];rfl,by rw[H2.out];exact Nw.nil _,Ext.refl _,Fr.nil _⟩
  ·have hr0:¬ n < 0:=by omega
   go_enter Tryz.func53,Tryz.ntmps53
   go_wp2
   go_ret2
   exact⟨_,by rw[H1.out];rfl,by rw[H2.out];exact Nw.nil _,Ext.refl _,Fr.nil _⟩
 ·have H1:Hid (shE n=0):=Lib.hid (if_neg hr)
  have H2:Hid (shrV N n=N / 2^n.toNat):=Lib.hid (if_neg hr)
  have hr0:¬ n < 0:=by omega
  have hr1:¬ 20000 < n:=by omega
  obtain⟨k,rfl⟩:=Int.eq_ofNat_of_zero_le (show 0≤n by omega)
  have hk:k≤20000:=by omega
  have hk0:0≤(k:Int):=by omega
  clear hr
  obtain⟨xs,⟨a,b,o,cap,rfl,hs,hl⟩,hn,rfl,l1⟩:=h.lens s
  clear h s hn
  have hmx:=hs.max
  have hle:=hs.le
  go_enter Tryz.func53,Tryz.ntmps53
  go_wp2_with fail
  go_loopw [6,7,8,9,10] (fun v i _ _ _ wr=>∃ (j:Nat) (l:List Nat),i=.int .i64 (j:Int)∧k / 64≤j∧j≤k / 64+xs.length∧Own wr w.heap.size 61 v l∧Lim B64 l∧l.length≤j∧Hid (l.length=j - k / 64)∧Hid (ev B64 l=ev B64 xs / 2^k % B64^(j - k / 64))∧Ext w wr) (fun _ i _ _ _ _=>k / 64+xs.length+1 - (intOf i).toNat)
  case atStart=>exact⟨k / 64,[],by go_num,Nat.le_refl _,by omega,Own.lit w [] w.heap.size 61 (Nat.le_refl _) (Nat.zero_le _),Lim.nil _,Nat.zero_le _,Lib.hid (by simp),Lib.hid (by simp[Nat.mod_one]),Ext.alloc1 _ _⟩
  case round=>
   obtain⟨j,l,rfl,hj1,hj2,hown,hlim,hlj,hll,hev,hEr⟩:=hrel
   have hEs:=hEr.size
   by_cases hlt:j < xs.length
   ·obtain rfl:a=some ⟨b,o,none⟩:=hs.addr (by omega)
    have hc:=(hs.ext hEr).cell hlt
    have hx64:=lg_lt hl j
    have hy64:=lg_lt hl (j+1)
    by_cases hlt2:j+1 < xs.length
    ·have hc2:=(hs.ext hEr).cell hlt2
     clear hs
     go_wp2_with fail
     go_loop [8,9,10] (fun xx yy q=>∃ (x y t:Nat),xx=.int .u64 (x:Int)∧yy=.int .u64 (y:Int)∧q=.int .i64 (t:Int)∧t≤k % 64∧x < B64∧y < B64∧Hid (x+B64*y=(xs.getD j 0+B64*xs.getD (j+1) 0) / 2^t)) (fun _ _ q=>k % 64 - (intOf q).toNat)
     case atStart=>exact⟨lg xs j,lg xs (j+1),0,rfl,rfl,rfl,by omega,hx64,hy64,Lib.hid (by rw[Nat.pow_zero,Nat.div_one];rfl)⟩
     case round=>
      obtain⟨x,y,t,rfl,rfl,rfl,ht,hx,hy,hT⟩:=hrel
      by_cases htl:t < k % 64
      ·have hsh:=shr_half hT.out hx
       have hw:IntKind.u64.wrap (IntKind.u64.wrap ((x:Int) / 2)+((y:Int) % 2)*9223372036854775808)=((x / 2+y % 2*9223372036854775808:Nat):Int):=shr_val hx
       have hw2:IntKind.u64.wrap ((y:Int) / 2)=((y / 2:Nat):Int):=wrap_u64 (y / 2) (Nat.lt_of_le_of_lt (Nat.div_le_self _ _) hy)
       have HSH:=Lib.hid hsh;have HW:=Lib.hid hw;have HW2:=Lib.hid hw2
       clear hsh hw hw2 hown hEr hx64 hy64 hc hc2
       go_wp2
       go_round
       case rel=>exact⟨x / 2+y % 2*9223372036854775808,y / 2,t+1,congrArg (Value.int .u64) HW.out,congrArg (Value.int .u64) HW2.out,by go_num,by omega,HSH.out.2,Nat.lt_of_le_of_lt (Nat.div_le_self _ _) hy,Lib.hid HSH.out.1⟩
       case measure=>simp[intOf];omega
      ·obtain rfl:t=k % 64:=by omega
       have hxd:x=ev B64 xs / 2^(64*j+k % 64) % B64:=by
        rw[← shr_limb hl j (k % 64) (by omega),← hT.out,Nat.add_mul_mod_self_left,Nat.mod_eq_of_lt hx]
       have HXD:=Lib.hid hxd;clear hxd
       go_wp2_with (at_builtin;go_loud (refine append_one Tryz.underlying41 Tryz.infoU rfl _ _ rfl w.heap.size _ l x _ (by rfl) (by rfl) hown rfl (by omega) hEs ?_);intro v' w1 hown1 hgrow)
       go_roundw
       case rel=>
        refine⟨j+1,l++[x],by go_num,by omega,by omega,hown1,hlim.snoc hx,by simp;omega,Lib.hid ?_,Lib.hid ?_,?_⟩
        ·have:=hll.out;simp;omega
        ·rw[show j+1 - k / 64=(j - k / 64)+1 from by omega]
         exact shr_step hll.out hev.out (by rw[HXD.out];congr 3;omega)
        ·exact(hEr.trans (Ext.alloc1 wr _)).grown hgrow (fun j e=>(hown.lt j e).1)
       case measure=>simp[intOf];omega
    ·have hy0:lg xs (j+1)=0:=by unfold lg;rw[List.getD_eq_getElem?_getD,List.getElem?_eq_none (by omega)];rfl
     have HY0:=Lib.hid hy0
     clear hs hy0
     go_wp2_with fail
     go_loop [8,9,10] (fun xx yy q=>∃ (x y t:Nat),xx=.int .u64 (x:Int)∧yy=.int .u64 (y:Int)∧q=.int .i64 (t:Int)∧t≤k % 64∧x < B64∧y < B64∧Hid (x+B64*y=(xs.getD j 0+B64*xs.getD (j+1) 0) / 2^t)) (fun _ _ q=>k % 64 - (intOf q).toNat)
     case atStart=>exact⟨lg xs j,0,0,rfl,rfl,rfl,by omega,hx64,B64_pos,Lib.hid (by rw[show xs.getD (j+1) 0=0 from HY0.out,Nat.pow_zero,Nat.div_one];rfl)⟩
     case round=>
      obtain⟨x,y,t,rfl,rfl,rfl,ht,hx,hy,hT⟩:=hrel
      by_cases htl:t < k % 64
      ·have hsh:=shr_half hT.out hx
       have hw:IntKind.u64.wrap (IntKind.u64.wrap ((x:Int) / 2)+((y:Int) % 2)*9223372036854775808)=((x / 2+y % 2*9223372036854775808:Nat):Int):=shr_val hx
       have hw2:IntKind.u64.wrap ((y:Int) / 2)=((y / 2:Nat):Int):=wrap_u64 (y / 2) (Nat.lt_of_le_of_lt (Nat.div_le_self _ _) hy)
       have HSH:=Lib.hid hsh;have HW:=Lib.hid hw;have HW2:=Lib.hid hw2
       clear hsh hw hw2 hown hEr hx64 hy64 hc
       go_wp2
       go_round
       case rel=>exact⟨x / 2+y % 2*9223372036854775808,y / 2,t+1,congrArg (Value.int .u64) HW.out,congrArg (Value.int .u64) HW2.out,by go_num,by omega,HSH.out.2,Nat.lt_of_le_of_lt (Nat.div_le_self _ _) hy,Lib.hid HSH.out.1⟩
       case measure=>simp[intOf];omega
      ·obtain rfl:t=k % 64:=by omega
       have hxd:x=ev B64 xs / 2^(64*j+k % 64) % B64:=by
        rw[← shr_limb hl j (k % 64) (by omega),← hT.out,Nat.add_mul_mod_self_left,Nat.mod_eq_of_lt hx]
       have HXD:=Lib.hid hxd;clear hxd
       go_wp2_with (at_builtin;go_loud (refine append_one Tryz.underlying41 Tryz.infoU rfl _ _ rfl w.heap.size _ l x _ (by rfl) (by rfl) hown rfl (by omega) hEs ?_);intro v' w1 hown1 hgrow)
       go_roundw
       case rel=>
        refine⟨j+1,l++[x],by go_num,by omega,by omega,hown1,hlim.snoc hx,by simp;omega,Lib.hid ?_,Lib.hid ?_,?_⟩
        ·have:=hll.out;simp;omega
        ·rw[show j+1 - k / 64=(j - k / 64)+1 from by omega]
         exact shr_step hll.out hev.out (by rw[HXD.out];congr 3;omega)
        ·exact(hEr.trans (Ext.alloc1 wr _)).grown hgrow (fun j e=>(hown.lt j e).1)
       case measure=>simp[intOf];omega
   ·have hfin:ev B64 l=ev B64 xs / 2^k:=by rw[hev.out];exact shr_end hl hj1 (by omega)
    have HF:=Lib.hid hfin
    clear hs hfin
    go_wp2_with (go_at_call 50;refine(Tryz.refBare (hown.nt hlim) (by omega)).mono ?_;rintro e w' ⟨v',rfl,hn,hx,hf⟩)
    go_ret2
    rw[HF.out]at hn
    rw[H1.out,H2.out]
    exact⟨_,rfl,hn,hEr.trans hx,hf.back hEr⟩
end Go.Rt
namespace Go.Rt
open Go.RowKit Go.Proofs
def dvR (N M:Nat):Nat:=if M=0 then 0 else N % M
def dvE (M:Nat):Int:=if M=0 then 4 else 0
theorem dvR_pos {N M:Nat} (h:0 < M):dvR N M=N % M:=if_neg (by omega)
theorem dvE_pos {M:Nat} (h:0 < M):dvE M=0:=if_neg (by omega)
structure DivR (N M I len:Nat) (qs:List Nat) (R:Nat):Prop where
 rest:R=N / 2^I % M
 len:qs.length=len
 limb:qs.getD (I / 64) 0=qp N M I % 2^(64 - I % 64)
 low:∀ j,j < I / 64→qs.getD j 0=0
 val:ev B64 qs=qrow N M I
theorem DivR.start {N M I n:Nat} (h:N / 2^I < M):DivR N M I n (List.replicate n 0) (N / 2^I):=
 let ⟨a,b,c⟩:=qp_start h
 ⟨b.symm,by simp,by rw[a];simp[List.getElem?_replicate];split <;> simp,fun j _=>by simp[List.getElem?_replicate];split <;> simp,by rw[c,ev_zeros]⟩
theorem DivR.low' {N M i n R:Nat} {qs:List Nat} (h:DivR N M (i+1) n qs R) (v:Nat):∀ j,j < i / 64→(qs.set (i / 64) v).getD j 0=0:=fun j hj=>by
 rw[getD_set_ne (by omega)];exact h.low j (by omega)
theorem DivR.step {N M i n R T d v:Nat} {qs:List Nat} (h:DivR N M (i+1) n qs R) (hM:0 < M) (hi:i / 64 < n) (hT:T=2*R+N / 2^i % 2)
  (hd:d=if T < M then 0 else 1) (hv:v=2*qs.getD (i / 64) 0+d):
  v < B64∧DivR N M i n (qs.set (i / 64) v) (if T < M then T else T - M):=by
 obtain⟨a,b⟩:=div_bit (i:=i) hM h.rest
 rw[← hT]at a b
 by_cases hlt:T < M
 ·obtain⟨e1,e2⟩:=a hlt
  rw[if_pos hlt]at hd ⊢
  obtain⟨c1,c2,c3⟩:=qrow_bit (d:=d) (by omega) (by rw[hd];exact e2) (by rw[h.len];exact hi) h.limb h.low h.val hv
  exact⟨c1,⟨e1.symm,by rw[List.length_set];exact h.len,c2,h.low' v,c3⟩⟩
 ·obtain⟨e1,e2⟩:=b (by omega)
  rw[if_neg hlt]at hd ⊢
  obtain⟨c1,c2,c3⟩:=qrow_bit (d:=d) (by omega) (by rw[hd];exact e2) (by rw[h.len];exact hi) h.limb h.low h.val hv
  exact⟨c1,⟨e1.symm,by rw[List.length_set];exact h.len,c2,h.low' v,c3⟩⟩
set_option maxHeartbeats 4000000 in
theorem Tryz.refDivMod {v1 v2:Value} {N M L:Nat} {w:World} (h1:Nw w v1 N) (h2:Nw w v2 M) (s1:Sm L N) (s2:Sm L M) (hL:L≤300):
  Calls Tryz.prog 23 #[v1,v2] w fun e w'=>∃ vq vr,e=.returned (.tuple #[vq,vr,.int .i64 (dvE M)])∧Nw w' vq (N / M)∧Nw w' vr (dvR N M)∧Ext w w'∧Fr w vq∧Fr w vr:=by
 obtain⟨ys,⟨a2,b2,o2,c2,rfl,hs2,hl2⟩,hn2,hm2,l2⟩:=h2.lens s2
 rcases Nat.eq_zero_or_pos M with h0 | hM
 ·have hy0:((ys.length:Int)==0)=true:=by
   have:=(hn2.zero_iff B64_pos).1 (hm2.trans h0)
   simp[this]
  have HE:Hid (dvE M=4):=Lib.hid (if_pos h0)
  have HQ:Hid (N / M=0):=Lib.hid (by rw[h0,Nat.div_zero])
  have HR:Hid (dvR N M=0):=Lib.hid (if_pos h0)
  clear hs2 hm2 h0 h1 h2 s1 s2
  go_enter Tryz.func23,Tryz.ntmps23
  go_wp2
  go_ret3
  exact⟨_,_,by rw[HE.out];rfl,by rw[HQ.out];exact Nw.nil _,by rw[HR.out];exact Nw.nil _,Ext.refl _,Fr.nil _,Fr.nil _⟩
 ·have hy0:((ys.length:Int)==0)=false:=beq_eq_false_iff_ne.2 (by
   intro h
   have:=(hn2.zero_iff (b:=B64) B64_pos).2 (by omega)
   omega)
  have HE:Hid (dvE M=0):=Lib.hid (dvE_pos hM)
  have HR:Hid (dvR N M=N % M):=Lib.hid (dvR_pos hM)
  clear hs2 hm2 hn2 hl2
  have bN:=bl_sm s1
  have bM:=bl_sm s2
  by_cases hfr:bl N < bl M
  ·have hNM:N < M:=by
    rcases Nat.lt_or_ge N M with h | h
    ·exact h
    ·have:=bl_mono h;omega
   have HQ:Hid (N / M=0):=Lib.hid (Nat.div_eq_of_lt hNM)
   have HR2:Hid (dvR N M=N):=Lib.hid (by rw[HR.out,Nat.mod_eq_of_lt hNM])
   obtain⟨xs,⟨a1,b1,o1,c1,rfl,hs1,hl1⟩,hn1,hm1,l1⟩:=h1.lens s1
   have HM1:=Lib.hid hm1
   have hsl:Sl ((w.alloc (.cells #[] 61)).alloc (.cells #[] 61)) a1 b1 o1 xs.length c1 (fun i=>.int .u64 ((lg xs i:Nat):Int)):=hs1.ext ((Ext.alloc1 _ _).alloc _)
   have ho:=Own.lit (w.alloc (.cells #[] 61)) [] w.heap.size 61 (by simp) (Nat.zero_le _)
   simp only[World.size_alloc]at ho
   have hx0:=((Ext.alloc1 w (.cells #[] 61)).alloc (.cells #[] 61))
   clear hm1 hs1 hNM
   go_enter Tryz.func23,Tryz.ntmps23
   go_wp2_with (first
    | (go_at_call 52;first | ((with_reducible refine(Tryz.refBits h1 s1 (by omega)).mono ?_);rintro e w' ⟨rfl,rfl⟩) | ((with_reducible refine(Tryz.refBits h2 s2 (by omega)).mono ?_);rintro e w' ⟨rfl,rfl⟩))
    | (at_builtin;go_loud (refine append_all Tryz.underlying41 Tryz.infoU rfl _ _ rfl w.heap.size _ [] xs _ b1 o1 c1 xs.length (by rfl) (by rfl) rfl ho hsl (by simp;omega) (by simp;omega) ?_);intro v' w' ho' hg'))
   all_goals go_ret3
   all_goals exact⟨_,_,by rw[HE.out];rfl,by rw[HQ.out];exact(Nt.nil0 w 61).ext ((Ext.alloc1 _ _).grown hg' (fun j e=>by cases e;simp)),by rw[HR2.out];exact⟨xs,by simpa using ho'.nt (by simpa using hl1),hn1,HM1.out⟩,hx0.grown hg' (fun j e=>by cases e;simp),Fr.at (Nat.le_refl _),ho'.fr⟩
  ·have hblM:0 < bl M:=(bl_ge (N:=M) (by omega)).2
   obtain⟨F,hF⟩:∃ F,bl N=bl M+F:=⟨bl N - bl M,by omega⟩
   have hFI:((bl N:Nat):Int) - ((bl M:Nat):Int)=(F:Int):=by omega
   have hF2:F+1≤20000:=by omega
   have hFb:F+1≤bl N:=by omega
   have HF:=Lib.hid hF
   obtain⟨xs,⟨a1,b1,o1,c1,rfl,hs1,hl1⟩,hn1,hm1,l1⟩:=h1.lens s1
   have hxl:bl N≤64*xs.length:=bl_sm (hm1 ▸ ev_lt hl1)
   have hSE:Hid (shE ((F:Int)+1)=0):=Lib.hid (by unfold shE;rw[if_neg (by omega)])
   have hSV:Hid (shrV N ((F:Int)+1)=N / 2^(F+1)):=Lib.hid (by unfold shrV;rw[if_neg (by omega)];rfl)
   have hst:=start_lt (N:=N) (M:=M) (by omega) (by omega)
   have hst':Hid (N / 2^(F+1) < M):=Lib.hid (by rwa [show bl N - bl M=F from by omega]at hst)
   have hmx:=hs1.max
   have hle:=hs1.le
   have hnt:Nt w (.slice a1 xs.length c1) xs:=⟨a1,b1,o1,c1,rfl,hs1,hl1⟩
   have HM1:=Lib.hid hm1
   clear hF hst hm1 hn1 hs1
   go_enter Tryz.func23,Tryz.ntmps23
   go_wp2_with (first
    | (go_at_call 52;first | ((with_reducible refine(Tryz.refBits h1 s1 (by omega)).mono ?_);rintro e w' ⟨rfl,rfl⟩) | ((with_reducible refine(Tryz.refBits h2 s2 (by omega)).mono ?_);rintro e w' ⟨rfl,rfl⟩))
    | (at_make;go_loud (refine make_full Tryz.underlying41 Tryz.infoU rfl _ _ rfl w.heap.size xs.length _ _ (by rfl) (by rfl) rfl rfl (by omega) (by omega) ?_);intro w1 hown0 hgrow0))
   have hE1:Ext w w1:=(Ext.refl w).grown hgrow0 (fun k e=>by cases e)
   refine(Tryz.refShr (h1.ext hE1) s1 (by omega) _).mono ?_
   rintro e w2 ⟨vr0,rfl,hr0,hE2,hfr0⟩
   have hw1:w.heap.size < w1.heap.size:=(hown0.head).2
   rw[hSE.out]
   rw[hSV.out]at hr0
   have hown1:=hown0.ext hE2
   have hE3:=hE1.trans hE2
   have hE1':=hE1
   clear hown0 hgrow0 hE1 hE2
   go_wp2_with fail
   go_loopw [9,11,12,13] (fun r i _ _ wr=>∃ (I:Nat) (qs:List Nat) (R:Nat),i=.int .i64 ((I:Int) - 1)∧I≤F+1∧Nw wr r R∧Fr w r∧r.ownBlock≠some w.heap.size∧R < M∧Own wr w.heap.size 61 (.slice (some ⟨w.heap.size,0,none⟩) xs.length xs.length) qs∧Lim B64 qs∧DivR N M I xs.length qs R∧Ext w wr) (fun _ i _ _ _=>(intOf i+1).toNat)
   case atStart=>exact⟨F+1,_,_,by go_num,Nat.le_refl _,hr0,hfr0.back hE1',hfr0.ne hw1,hst'.out,hown1,Lim.zeros B64_pos _,DivR.start hst'.out,hE3⟩
   case round=>
    obtain⟨I,qs,R,rfl,hI,hR,hRf,hRb,hRM,hown,hlim,hdr,hEr⟩:=hrel
    rcases Nat.eq_zero_or_pos I with rfl | hpos
    ·have hd:=hdr.rest
     have hv:=hdr.val
     rw[qrow_zero]at hv
     rw[Nat.pow_zero,Nat.div_one]at hd
     have HV:=Lib.hid hv;have HD:=Lib.hid hd
     have hql:qs.length≤xs.length:=by rw[hdr.len];omega
     clear hv hd hdr
     go_wp2_with (go_at_call 50;refine(Tryz.refBare (hown.nt hlim) (by omega)).mono ?_;rintro e w' ⟨v',rfl,hn,hx,hf⟩)
     go_ret3
     rw[HV.out]at hn
     rw[HE.out,HR.out]
     exact⟨_,_,rfl,hn,by rw[← HD.out];exact hR.ext hx,hEr.trans hx,hf.back hEr,hRf⟩
    ·obtain⟨i,rfl⟩:∃ i,I=i+1:=⟨I - 1,by omega⟩
     have ei:((i+1:Nat):Int) - 1=(i:Int):=by omega
     rw[ei]
     clear ei
     have hi:i / 64 < xs.length:=by omega
     have sR:Sm L R:=s2.le (Nat.le_of_lt hRM)
     obtain⟨c,hc⟩:∃ c,c=N / 2^i % 2:=⟨_,rfl⟩
     have hc2:c < 2:=by omega
     obtain⟨T,hT⟩:∃ T,T=R+R+c:=⟨_,rfl⟩
     obtain⟨d,hd⟩:∃ d,d=if T < M then 0 else 1:=⟨_,rfl⟩
     obtain⟨v,hv⟩:∃ v,v=2*qs.getD (i / 64) 0+d:=⟨_,rfl⟩
     have hstep:=hdr.step hM hi (show T=2*R+N / 2^i % 2 by omega) hd hv
     have HT:=Lib.hid hT;have HD:=Lib.hid hd;have HVV:=Lib.hid hv;have HS:=Lib.hid hstep
     have hc64:c < B64:=by rw[B64_eq];omega
     have sT1:Sm (L+1) (R+R):=sR.add sR
     have sB:Sm (L+1) c:=(Sm.one hc64).mono (by omega)
     have sT:Sm (L+2) T:=by rw[hT];exact sT1.add sB
     have HC:=Lib.hid hc
     have hqc:=hown.cellAt (i:=i / 64) (by rw[hdr.len];exact hi)
     obtain⟨g0,hg0⟩:∃ g0,g0=lg qs (i / 64):=⟨_,rfl⟩
     rw[← hg0]at hqc
     have HG:=Lib.hid hg0
     have hql:=hdr.len
     have HQL:=Lib.hid hql
     clear hT hd hv hstep hc hg0 hql
     go_wp2_with fail
     refine(Tryz.refAdd hR hR sR sR (by omega)).mono ?_
     rintro e w3 ⟨v3,rfl,hn3,hE3',_⟩
     go_wp2_with fail
     have hE03:=hE3.trans (Ext.refl _)
     have hbit:=Tryz.bit (hnt.ext (hEr.trans hE3')) i hi (by omega)
     rw[HM1.out,← HC.out]at hbit
     refine hbit.mono ?_
     clear hbit
     rintro e w3' ⟨rfl,rfl⟩
     go_wp2_with fail
     refine(Tryz.refOf c _ hc64).mono ?_
     rintro e w4 ⟨v4,rfl,hn4,hE4,_⟩
     go_wp2_with fail
     refine(Tryz.refAdd (hn3.ext hE4) hn4 sT1 sB (by omega)).mono ?_
     rintro e w5 ⟨v5,rfl,hn5,hE5,hf5'⟩
     have hwr:=hown.head.2
     have hf5r:=hf5'.back (hE3'.trans hE4)
     have hv5b:=hf5r.ne hwr
     have hv5f:=hf5r.back hEr
     clear hf5' hf5r
     rw[← HT.out]at hn5
     have hE35:=hE3'.trans (hE4.trans hE5)
     have hE05:=hEr.trans hE35
     have hown5:=hown.ext hE35
     have hq5:=hE35.cell hqc
     have hf5:=hown5.frozenAt (i / 64)
     clear hqc hn3 hn4 hE3' hE4 hE5 hown hE03
     have g64:g0 < B64:=by rw[HG.out];exact lg_lt hlim _
     have hd2:d < 2:=by rw[HD.out];split <;> omega
     have hvv:v=2*g0+d:=by rw[HVV.out,HG.out];rfl
     have hw1:IntKind.u64.wrap ((g0:Int)*2)=((g0*2:Nat):Int):=wmul g0 2 (by have:=HS.out.1;omega)
     have HW1:=Lib.hid hw1;have HVD:=Lib.hid hvv
     have hst5:=Own.stored hown5 (i / 64) (g0*2) rfl
     clear hvv g64
     go_wp2_with fail
     have hn6:=hn5.set_other (p:=⟨w.heap.size,i / 64,none⟩) hv5b (.int .u64 ((g0:Int)*2))
     have hE06:=hE05.setCell (p:=⟨w.heap.size,i / 64,none⟩) (Nat.le_refl _) (.int .u64 ((g0:Int)*2))
     have hst6:Own (w5.setCell ⟨w.heap.size,i / 64,none⟩ (.int .u64 ((g0:Int)*2))) w.heap.size 61 (.slice (some ⟨w.heap.size,0,none⟩) xs.length xs.length) (qs.set (i / 64) (g0*2)):=hst5
     obtain⟨w6,hw6⟩:∃ w6,w6=w5.setCell ⟨w.heap.size,i / 64,none⟩ (.int .u64 ((g0:Int)*2)):=⟨_,rfl⟩
     rw[← hw6]at hn6 hE06 hst6 ⊢
     clear hw6 hst5 hq5 hf5 hE05 hown5 hE35 hR hn5
     refine(Tryz.refCmp hn6 (h2.ext hE06)).mono ?_
     rintro e w7 ⟨rfl,hE7⟩
     have hlim6:Lim B64 (qs.set (i / 64) (g0*2)):=hlim.set (by have:=HS.out.1;have:=HVD.out;omega) _
     have hn7:=hn6.ext hE7
     have hst7:=hst6.ext hE7
     have hE07:=hE06.trans hE7
     clear hn6 hst6 hE7
     by_cases hlt:T < M
     ·have hneg:(cmpI T M) < 0:=cmpI_neg.2 (by omega)
      have hge:¬ 0≤cmpI T M:=by omega
      have hd0:Hid (d=0):=Lib.hid (by rw[HD.out,if_pos hlt])
      have HS2:=Lib.hid (show DivR N M i xs.length (qs.set (i / 64) v) T from by have h:=HS.out.2;rwa [if_pos hlt]at h)
      clear hE06
      go_wp2_with fail
      go_roundw
      case rel=>
       refine⟨i,qs.set (i / 64) (g0*2),T,by go_num,by omega,hn7,hv5f,hv5b,by omega,hst7,hlim6,?_,hE07⟩
       have h1:=HVD.out;have h0:=hd0.out
       rw[show g0*2=v by omega];exact HS2.out
      case measure=>simp[intOf] <;> omega
     ·have hneg:¬ (cmpI T M) < 0:=fun h=>hlt (by have:=cmpI_neg.1 h;omega)
      have hge:0≤cmpI T M:=by omega
      have hd1:Hid (d=1):=Lib.hid (by rw[HD.out,if_neg hlt])
      have HS2:=Lib.hid (show DivR N M i xs.length (qs.set (i / 64) v) (T - M) from by have h:=HS.out.2;rwa [if_neg hlt]at h)
      have hsE:Hid (subE T M=0):=Lib.hid (if_neg hlt)
      have hTM:T - M < M:=by
       have:=HT.out;omega
      go_wp2_with fail
      refine(Tryz.refSub hn7 (h2.ext hE07) sT (s2.mono (by omega)) (by omega)).mono ?_
      rintro e w8 ⟨v8,rfl,hn8,hE8,hf8⟩
      have hst8:=hst7.ext hE8
      have hE08:=hE07.trans hE8
      have hv8b:=hf8.ne hst7.head.2
      have hv8f:=hf8.back hE07
      have hqc8:=hst8.cellAt (i:=i / 64) (by rw[List.length_set,HQL.out];exact hi)
      have hgq:lg (qs.set (i / 64) (g0*2)) (i / 64)=g0*2:=getD_set_eq (by rw[HQL.out];exact hi)
      rw[hgq]at hqc8
      have hfq8:=hst8.frozenAt (i / 64)
      obtain⟨g2,hg2⟩:∃ g2,g2=g0*2:=⟨_,rfl⟩
      rw[← hg2]at hqc8
      have HG2:=Lib.hid hg2
      have hw9:IntKind.u64.wrap ((g2:Int)+1)=((g2+1:Nat):Int):=wadd g2 1 (by have:=HS.out.1;have:=HVD.out;have:=hd1.out;omega)
      have HW9:=Lib.hid hw9
      have hst9:=Own.stored hst8 (i / 64) (g2+1) (Y:=(g2:Int)+1) rfl
      have hst9':=Own.stored hst8 (i / 64) (g2+1) hw9
      rw[List.set_set]at hst9 hst9'
      have hn9:=hn8.set_other (p:=⟨w.heap.size,i / 64,none⟩) hv8b (.int .u64 ((g2:Int)+1))
      have hn9':=hn8.set_other (p:=⟨w.heap.size,i / 64,none⟩) hv8b (.int .u64 (IntKind.u64.wrap ((g2:Int)+1)))
      have hE09:=hE08.setCell (p:=⟨w.heap.size,i / 64,none⟩) (Nat.le_refl _) (.int .u64 ((g2:Int)+1))
      have hE09':=hE08.setCell (p:=⟨w.heap.size,i / 64,none⟩) (Nat.le_refl _) (.int .u64 (IntKind.u64.wrap ((g2:Int)+1)))
      have HH:=Lib.hid (And.intro hst9' (And.intro hn9' hE09'))
      have HHH:=Lib.hid (And.intro hst9 (And.intro hn9 hE09))
      clear hg2 hw9 hgq hn7 hst7 hE07 hE06 hst9 hst9' hn9 hn9' hE09 hE09' hn8 hst8 hE8
      go_wp2_with fail
      go_roundw
      case rel=>
       have h1:=HVD.out;have h0:=hd1.out;have h2:=HG2.out
       have hv1:v=g2+1:=by omega
       rw[HW9.out]at *
       refine⟨i,qs.set (i / 64) (g2+1),T - M,by go_num,by omega,HHH.out.2.1,hv8f,hv8b,hTM,HHH.out.1,hlim.set (by rw[← hv1];exact HS.out.1) _,?_,HHH.out.2.2⟩
       rw[← hv1];exact HS2.out
      case measure=>simp[intOf] <;> omega
end Go.Rt
namespace Go.Rt
open Go.RowKit Go.Proofs
theorem Nt.unique {w:World} {v:Value} {xs ys:List Nat} (h:Nt w v xs) (k:Nt w v ys):xs=ys:=by
 obtain⟨a,b,o,cap,rfl,hs,hl⟩:=h
 obtain⟨a',b',o',cap',e,hs',hl'⟩:=k
 simp only[Value.slice.injEq]at e
 obtain⟨rfl,e2,rfl⟩:=e
 apply List.ext_getElem e2
 intro i h1 h2
 have c1:=hs.cell h1
 have c2:=hs'.cell h2
 have ea:(⟨b,o,none⟩:Addr)=⟨b',o',none⟩:=by
  have:=(hs.addr (by omega)).symm.trans (hs'.addr (by omega))
  simpa using this
 simp only[Addr.mk.injEq,and_true]at ea
 obtain⟨rfl,rfl⟩:=ea
 rw[c1]at c2
 simp only[Option.some.injEq,Value.int.injEq,true_and,Int.natCast_inj]at c2
 rwa [lg_eq h1,lg_eq h2]at c2
theorem Nw.unique {w:World} {v:Value} {N M:Nat} (h:Nw w v N) (k:Nw w v M):N=M:=by
 obtain⟨xs,h1,_,rfl⟩:=h
 obtain⟨ys,k1,_,rfl⟩:=k
 rw[h1.unique k1]
noncomputable def numOf (w:World) (v:Value):Nat:=Classical.epsilon (Nw w v)
theorem numOf_eq {w:World} {v:Value} {N:Nat} (h:Nw w v N):numOf w v=N:=(Classical.epsilon_spec (p:=Nw w v) ⟨N,h⟩).unique h
theorem gcd_step {A B:Nat}:Nat.gcd A B=Nat.gcd B (A % B):=by rw[Nat.gcd_comm A B,Nat.gcd_rec B A,Nat.gcd_comm]
set_option maxHeartbeats 1000000 in
theorem Tryz.refGcd {v1 v2:Value} {N M L:Nat} {w:World} (h1:Nw w v1 N) (h2:Nw w v2 M) (s1:Sm L N) (s2:Sm L M) (hL:L≤300):
  Calls Tryz.prog 97 #[v1,v2] w fun e w'=>∃ v',e=.returned v'∧Nw w' v' (Nat.gcd N M)∧Ext w w':=by
 go_enter Tryz.func97,Tryz.ntmps97
 go_wp2
 go_loopw [0,1,5,6,7] (fun a b _ _ _ wr=>∃ A B,Nw wr a A∧Nw wr b B∧Sm L A∧Sm L B∧Hid (Nat.gcd A B=Nat.gcd N M)∧Ext w wr) (fun _ b _ _ _ wr=>numOf wr b)
 case atStart=>exact⟨N,M,h1,h2,s1,s2,Lib.hid rfl,Ext.refl _⟩
 case round=>
  obtain⟨A,B,hA,hB,sA,sB,hg,hE⟩:=hrel
  clear h1 h2
  have hB':=hB
  obtain⟨a,n,cap,rfl,hn0,-⟩:=hB.len
  rcases Nat.eq_zero_or_pos n with rfl | hpos
  ·have hB0:B=0:=hn0.1 rfl
   have HR:Hid (A=Nat.gcd N M):=Lib.hid (by rw[← hg.out,hB0,Nat.gcd_zero_right])
   clear hn0 hB0 hB hB'
   go_wp2
   go_ret
   exact⟨_,rfl,by rw[← HR.out];exact hA,hE⟩
  ·have hBp:0 < B:=by
    rcases Nat.eq_zero_or_pos B with h | h
    ·have:=hn0.2 h;omega
    ·exact h
   have HM:Hid (numOf wr (.slice a n cap)=B):=Lib.hid (numOf_eq hB)
   clear hn0
   go_wp2_with fail
   refine(Tryz.refDivMod hA hB sA sB hL).mono ?_
   rintro e w2 ⟨vq,vr,rfl,hq,hr,hE2,_,_⟩
   have hB2:=hB'.ext hE2
   rw[dvR_pos hBp]at hr
   have hrlt:A % B < B:=Nat.mod_lt _ hBp
   have HMR:Hid (numOf w2 vr=A % B):=Lib.hid (numOf_eq hr)
   go_wp2
   go_roundw
   case rel=>exact⟨B,A % B,hB2,hr,sB,sB.le (Nat.le_of_lt hrlt),Lib.hid (by rw[← gcd_step];exact hg.out),hE.trans hE2⟩
   case measure=>
    rw[HM.out]
    show numOf w2 vr < B
    rw[HMR.out];exact hrlt
end Go.Rt
