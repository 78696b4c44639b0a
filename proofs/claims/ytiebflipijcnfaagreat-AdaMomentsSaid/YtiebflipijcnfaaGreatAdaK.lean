/-
 Adafactor: new moments of rows and columns by the program.
-/
import Derived.Test.YtiebflipijcnfaaGreatJA
namespace Go.Rt
open Go Go.RowKit Go.Shelf Go.Proofs
attribute [local go_sem] Oper.semAt_some
theorem mom_factored {K:Nat} {sh:Int} {cl R:Nat} {lm lv q:List Int} (h1:2≤cl) (h2:2≤R) (h:q.length=R*cl):facB q.length cl=true∧mL K sh cl lm q=outL R (valF (mF K sh cl lm q))∧vL K sh cl lv q=outL cl (valF (vF K sh cl lv q)) ∧
  sL K sh cl lm lv q=outL q.length (valF (sF cl (outL R (valF (mF K sh cl lm q))) (outL cl (valF (vF K sh cl lv q))))) ∧
  momB K sh cl lm lv q=(allB R (mF K sh cl lm q) && allB cl (vF K sh cl lv q) && allB q.length (sF cl (outL R (valF (mF K sh cl lm q))) (outL cl (valF (vF K sh cl lv q))))):=by
 have hd:q.length / cl=R:=by rw[h];exact Nat.mul_div_cancel _ (by omega)
 have hf:facB q.length cl=true:=by unfold facB;rw[hd,decide_eq_true h1,decide_eq_true h2];rfl
 refine⟨hf,?_⟩
 unfold sL momB mL vL
 rw[hf,hd]
 exact⟨rfl,rfl,rfl,rfl⟩
theorem col_lt {k j cl R ng ii:Nat} (h:j < R) (hk:k < cl) (hn:ng=R*cl) (hi:ii=k+j*cl):ii < ng:=by
 have h1:j*cl+cl≤R*cl:=by rw[← Nat.succ_mul];exact Nat.mul_le_mul_right _ h
 omega
theorem fold1 (t:Array Value) (p:Nat) (x:Value):((#[p]:Array Nat).zip #[x]).foldl (fun t (p,v)=>t.setIfInBounds p v) t=t.setIfInBounds p x:=by simp
theorem colL_at {q:List Int} {cl R:Nat} (hc:2≤cl) (h:q.length=R*cl) (k:Nat):colL cl q k=outL R fun j=>atL q (k+j*cl):=by
 unfold colL
 rw[h,Nat.mul_div_cancel _ (by omega)]
set_option maxRecDepth 100000 in
set_option maxHeartbeats 32000000 in
theorem Tryz.adaMomentsF {am av ag aw:Option Addr} {R cm cv ng cg nw cw:Nat} {lm lv lg:List Int} (lr ep d sh:Int) (K cl:Nat) (w:World) (hK:K≤40) (h0:0≤sh) (h1:sh≤oneZ K) (he:I64 ep) (hc1:2≤cl) (hR2:2≤R) (hrc:ng=R*cl) (hn:ng≤40)
  (hm:Iw 0 w.heap.size w am R cm lm) (hv:Iw 0 w.heap.size w av cl cv lv) (hg:Iw 0 w.heap.size w ag ng cg lg):
  Calls Tryz.prog 43 #[.agg #[.int .i64 lr,.int .i64 ep,.int .i64 d,.int .i64 (K:Int),.int .i64 (cl:Int),.int .i64 sh],.agg #[.slice aw nw cw,.slice am R cm,.slice av cl cv,.slice ag ng cg]] w fun e w'=>Ext w w'∧(((allB lg.length (sqF K ⟨lr,ep,d⟩ lg) && momB K sh cl lm lv (qL K ⟨lr,ep,d⟩ lg))=true∧∃ a1 n1 c1 a2 c2 a3 c3,e=.returned (.tuple #[.slice a1 n1 c1,.slice a2 cl c2,.slice a3 ng c3])∧Iw w.heap.size w'.heap.size w' a1 n1 c1 (mL K sh cl lm (qL K ⟨lr,ep,d⟩ lg))∧Iw w.heap.size w'.heap.size w' a2 cl c2 (vL K sh cl lv (qL K ⟨lr,ep,d⟩ lg))∧Iw w.heap.size w'.heap.size w' a3 ng c3 (sL K sh cl lm lv (qL K ⟨lr,ep,d⟩ lg)))∨((allB lg.length (sqF K ⟨lr,ep,d⟩ lg) && momB K sh cl lm lv (qL K ⟨lr,ep,d⟩ lg))=false∧e=.panicked [{ v:=.iface 113 (.agg #[]),recovered:=false }])):=by
 have HK:=Lib.hid (And.intro hK (And.intro h0 h1))
 have HE:=Lib.hid he
 have hcn:cl≤ng∧R≤ng:=by rw[hrc];exact⟨Nat.le_mul_of_pos_left _ (by omega),Nat.le_mul_of_pos_right _ (by omega)⟩
 have HC:=Lib.hid (And.intro hc1 (And.intro hR2 (And.intro hn hcn)))
 have HRC:=Lib.hid hrc
 have HLN:=Lib.hid (And.intro hm.len (And.intro hv.len hg.len))
 have HIG:=Lib.hid (And.intro hm.in64 (And.intro hv.in64 hg.in64))
 clear hK h0 h1 he hc1 hn hR2 hrc hcn
 obtain⟨fq,hfq⟩:∃ f,f=sqF K ⟨lr,ep,d⟩ lg:=⟨_,rfl⟩
 have HFQ:=Lib.hid hfq
 clear hfq
 obtain⟨W0,hW0⟩:∃ W0,W0=((w.alloc (.cells #[.int .i64 lr,.int .i64 ep,.int .i64 d,.int .i64 (K:Int),.int .i64 (cl:Int),.int .i64 sh] 54)).alloc (.cells #[.slice aw nw cw,.slice am R cm,.slice av cl cv,.slice ag ng cg] 27)):=⟨_,rfl⟩
 have E0:Ext w W0:=by rw[hW0];exact((Ext.alloc1 w (.cells #[.int .i64 lr,.int .i64 ep,.int .i64 d,.int .i64 (K:Int),.int .i64 (cl:Int),.int .i64 sh] 54)).alloc (.cells #[.slice aw nw cw,.slice am R cm,.slice av cl cv,.slice ag ng cg] 27))
 replace hm:Iw 0 w.heap.size W0 am R cm (lm):=hm.ext E0
 replace hv:Iw 0 w.heap.size W0 av cl cv (lv):=hv.ext E0
 replace hg:Iw 0 w.heap.size W0 ag ng cg (lg):=hg.ext E0
 have p2:BxA W0 w.heap.size 54 #[.int .i64 lr,.int .i64 ep,.int .i64 d,.int .i64 (K:Int),.int .i64 (cl:Int),.int .i64 sh]:=by rw[hW0];exact(BxA.new w 54 #[.int .i64 lr,.int .i64 ep,.int .i64 d,.int .i64 (K:Int),.int .i64 (cl:Int),.int .i64 sh]).ext (Ext.alloc1 (w.alloc (.cells #[.int .i64 lr,.int .i64 ep,.int .i64 d,.int .i64 (K:Int),.int .i64 (cl:Int),.int .i64 sh] 54)) (.cells #[.slice aw nw cw,.slice am R cm,.slice av cl cv,.slice ag ng cg] 27))
 have p3:BxA W0 (w.heap.size+1) 27 #[.slice aw nw cw,.slice am R cm,.slice av cl cv,.slice ag ng cg]:=by rw[hW0];simpa using (BxA.new (w.alloc (.cells #[.int .i64 lr,.int .i64 ep,.int .i64 d,.int .i64 (K:Int),.int .i64 (cl:Int),.int .i64 sh] 54)) 27 #[.slice aw nw cw,.slice am R cm,.slice av cl cv,.slice ag ng cg])
 refine calls_of_wpAt (n:=10) Tryz.func43 rfl ?_
 simp only[Tryz.ntmps43,List.size_toArray,List.length_cons,List.length_nil,Nat.reduceAdd,Nat.reduceSub,Array.replicate_succ,Array.replicate_zero,List.push_toArray,List.append_toArray,List.nil_append,List.cons_append]
 generalize hQ:bodyPostM Fence.wide 10 Tryz.prog _ _=Q
 have HPAN:Hid (∀ t W,Ext w W→(allB lg.length (sqF K ⟨lr,ep,d⟩ lg) && momB K sh cl lm lv (qL K ⟨lr,ep,d⟩ lg))=false→Q (.panic [{ v:=.iface 113 (.agg #[]),recovered:=false }]) { tmps:=t,defers:=[] } W):=Lib.hid (fun t W h1 h2=>by rw[← hQ];exact panic_bare ⟨h1,.inr ⟨h2,rfl⟩⟩)
 have HPAM:Hid (∀ D t W,Dfr D W→w.heap.size≤D→Ext w W→(allB lg.length (sqF K ⟨lr,ep,d⟩ lg) && momB K sh cl lm lv (qL K ⟨lr,ep,d⟩ lg))=false→Q (.panic [{ v:=.iface 113 (.agg #[]),recovered:=false }]) { tmps:=t,defers:=[{ target:=.collected D,args:=#[] }] } W):=Lib.hid (fun D t W hD hl h1 h2=>by rw[← hQ];exact panic_mark hD Tryz.func43 ⟨h1.putObj hl _,.inr ⟨h2,rfl⟩⟩)
 have HQ:=Lib.hid hQ
 clear hQ
 refine wpAt_seq_k fun KA0 hKA0=>?_
 go_wp2
 rw[← hW0]
 clear hW0
 refine wpAt_seq_k fun KA1 hKA1=>?_
 obtain⟨kp2_0,kp2_1,kp2_2,kp2_3,kp2_4,kp2_5⟩:=p2.c6
 obtain⟨kp3_0,kp3_1,kp3_2,kp3_3⟩:=p3.c4
 go_wp2
 clear kp2_0 kp2_1 kp2_2 kp2_3 kp2_4 kp2_5 kp3_0 kp3_1 kp3_2 kp3_3
 obtain⟨L,hL⟩:∃ L,L=W0.heap.size:=⟨_,rfl⟩
 have HL:Hid (w.heap.size+1 < L):=Lib.hid (by have:=p3.lt;omega)
 have hsL:L≤W0.heap.size:=Nat.le_of_eq hL
 clear hL
 refine wpAt_seq_k fun KA2 hKA2=>?_
 obtain⟨kp2_0,kp2_1,kp2_2,kp2_3,kp2_4,kp2_5⟩:=p2.c6
 obtain⟨kp3_0,kp3_1,kp3_2,kp3_3⟩:=p3.c4
 go_wp2_with fail
 clear kp2_0 kp2_1 kp2_2 kp2_3 kp2_4 kp2_5 kp3_0 kp3_1 kp3_2 kp3_3
 go_loopw [7,25] (fun v i wr=>∃ (k:Nat) (vq:Value),vq=v∧i=.int .i64 (k:Int)∧k≤ng∧Hid (∀ j,j < k→fq j≠none)∧RowG L wr.heap.size wr 2 vq (outL k (valF fq))∧Ext w wr∧Iw 0 w.heap.size wr am R cm (lm)∧Iw 0 w.heap.size wr av cl cv (lv)∧Iw 0 w.heap.size wr ag ng cg (lg)∧BxA wr w.heap.size 54 #[.int .i64 lr,.int .i64 ep,.int .i64 d,.int .i64 (K:Int),.int .i64 (cl:Int),.int .i64 sh]∧BxA wr (w.heap.size+1) 27 #[.slice aw nw cw,.slice am R cm,.slice av cl cv,.slice ag ng cg]∧L≤wr.heap.size) (fun _ i _=>ng - (intOf i).toNat)
 case atStart=>exact⟨0,_,rfl,rfl,Nat.zero_le _,Lib.hid (fun j hj=>absurd hj (by omega)),RowG.nil _ _ _ _,E0,hm,hv,hg,p2,p3,hsL⟩
 case round=>
  clear E0 hm hv hg p2 p3 hsL
  obtain⟨k,vq,rfl,rfl,hk,HA,hq,E0,hm,hv,hg,p2,p3,hsL⟩:=hrel
  by_cases hlt:k < ng
  ·have hltI:(k:Int) < (ng:Int):=by omega
   have hk0:(0:Int)≤(k:Int):=by omega
   have hk63:(k:Int) < 9223372036854775807:=by have:=HC.out;omega
   obtain⟨bg,og,ea,-,-⟩:=hg.some (by omega)
   subst ea
   have kc:=hg.cell hlt
   have HX:=Lib.hid (hg.i64 hlt)
   obtain⟨x,hx⟩:∃ x,x=atL lg k:=⟨_,rfl⟩
   have HXX:=Lib.hid hx
   rw[← hx]at kc HX
   have HLT:=Lib.hid hlt
   obtain⟨z1,Hz1⟩:∃ u_,u_=(mulO K x x).getD 0:=⟨_,rfl⟩
   replace Hz1:=Lib.hid Hz1
   obtain⟨V,hV⟩:∃ V,fitV (z1+ep)=V:=⟨_,rfl⟩
   obtain⟨E,hE⟩:∃ E,fitE (z1+ep)=E:=⟨_,rfl⟩
   have HZ:Hid (heldO V E=addO z1 ep):=Lib.hid (by rw[← hV,← hE];exact heldO_fit _)
   have HV:=Lib.hid hV
   have HEE:=Lib.hid hE
   clear hV hE hx
   obtain⟨z2,Hz2⟩:∃ u_,u_=(heldO V E).getD 0:=⟨_,rfl⟩
   replace Hz2:=Lib.hid Hz2
   have HF:Hid (fq k=squareO K ep x):=Lib.hid (by rw[HFQ.out,HXX.out];rfl)
   obtain⟨hh,hhe⟩:∃ n,n=wr.heap.size:=⟨_,rfl⟩
   have hhs:hh≤wr.heap.size:=Nat.le_of_eq hhe
   rw[← hhe]at hq
   have HHE:=Lib.hid hhe
   clear hhe hlt hk
   obtain⟨kp2_0,kp2_1,kp2_2,kp2_3,kp2_4,kp2_5⟩:=p2.c6
   obtain⟨kp3_0,kp3_1,kp3_2,kp3_3⟩:=p3.c4
   go_upto_region 5 with (fail)
   clear kp2_0 kp2_1 kp2_2 kp2_3 kp2_4 kp2_5 kp3_0 kp3_1 kp3_2 kp3_3
   clear kc
   have sHL:=HL.out
   have sHC:=HC.out
   have ltp2:=p2.lt
   have ltp3:=p3.lt
   have lthsL:=hsL
   have lthhs:=hhs
   have szw1:=Ext.size E0
   refine region_go5 [.one fun v W=>v=vq∧RowG L hh W 2 v (outL k (valF fq)),
     .one fun v _=>v=.agg #[.int .i64 lr,.int .i64 ep,.int .i64 d,.int .i64 (K:Int),.int .i64 (cl:Int),.int .i64 sh],
     .one fun v _=>v=.int .i64 x,
     .one fun v _=>v=.int .i64 x,
     .one fun v _=>v=.int .i64 z1∧mulO K x x=some z1,
     .one fun v _=>v=.pointer (some ⟨w.heap.size,0,none⟩),
     .one fun v _=>v=.pointer (some ⟨w.heap.size,1,none⟩),
     .one fun v _=>v=.int .i64 ep,
     .one fun v _=>v=.tuple #[.int .i64 V,.int .i64 E],
     .one fun v _=>v=.int .i64 V,
     .one fun v _=>v=.int .i64 E,
     .one fun v _=>v=.int .i64 z2∧heldO V E=some z2,
     .one fun v W=>NewG W v z2,
     .one fun v W=>RowG L W.heap.size W 2 v (outL k (valF fq)++[z2]),
     .two 13 fun p v _=>v=p]
    (fun W=>Ext w W∧Iw 0 w.heap.size W am R cm (lm)∧Iw 0 w.heap.size W av cl cv (lv)∧Iw 0 w.heap.size W (some ⟨bg,og,none⟩) ng cg (lg)∧BxA W w.heap.size 54 #[.int .i64 lr,.int .i64 ep,.int .i64 d,.int .i64 (K:Int),.int .i64 (cl:Int),.int .i64 sh]∧BxA W (w.heap.size+1) 27 #[.slice aw nw cw,.slice am R cm,.slice av cl cv,.slice (some ⟨bg,og,none⟩) ng cg]∧L≤W.heap.size∧RowG L hh W 2 vq (outL k (valF fq))∧hh≤W.heap.size∧wr.heap.size≤W.heap.size) (fun _=>True) L (Ione vq) 9999 [(0,1),(13,1),(12,3)] [Tag4.on 0,Tag4.any,Tag4.any,Tag4.any,Tag4.any,Tag4.any,Tag4.any,Tag4.any,Tag4.any,Tag4.any,Tag4.any,Tag4.any,Tag4.on 12,Tag4.on 13,Tag4.any] ⟨tagQ,tag4_good (Good.is _),tag4_good (Good.is _),tag4_good (Good.is _),tag4_good (Good.may _ _),tag4_good (Good.is _),tag4_good (Good.is _),tag4_good (Good.is _),tag4_good (Good.is _),tag4_good (Good.is _),tag4_good (Good.is _),tag4_good (Good.may _ _),tagN,tagH,tag4_two,trivial⟩
    (fun W W1 hS hE=>⟨(Ext.trans hS.1 hE),(hS.2.1.ext hE),(hS.2.2.1.ext hE),(hS.2.2.2.1.ext hE),(hS.2.2.2.2.1.ext hE),(hS.2.2.2.2.2.1.ext hE),(Nat.le_trans hS.2.2.2.2.2.2.1 (Ext.size hE)),(hS.2.2.2.2.2.2.2.1.ext hE),(Nat.le_trans hS.2.2.2.2.2.2.2.2.1 (Ext.size hE)),(Nat.le_trans hS.2.2.2.2.2.2.2.2.2 (Ext.size hE))⟩) (fun _ _ h _=>h) (begun_one hq (by omega) (by omega)) ⟨E0,hm,hv,hg,p2,p3,hsL,hq,hhs,Nat.le_refl _⟩ trivial (by kernel_rfl) (by kernel_rfl) (by kernel_rfl) (by kernel_rfl) (A:=?A1) ?hA1 ?howe1 ?hfin1
   case hA1=>
    intro vs
    simp only[putAll,Act.put,List.setIfInBounds_toArray,List.set_cons_zero,List.set_cons_succ,Nat.zero_add,Nat.reduceAdd]
    exact rfl
   case howe1=>
    clear E0 hm hv hg p2 p3 hsL hq hhs
    intro hf
    refine⟨owes5O 0 [] hf rfl rfl (by kernel_rfl) ?_,owes5E 1 [] hf rfl rfl rfl (by kernel_rfl) ?_,owes5E 2 [] hf rfl rfl rfl (by kernel_rfl) ?_,owes5E 3 [] hf rfl rfl rfl (by kernel_rfl) ?_,owes5E 4 [1,2,3] hf rfl rfl rfl (by kernel_rfl) ?_,owes5E 5 [] hf rfl rfl rfl (by kernel_rfl) ?_,owes5E 6 [5] hf rfl rfl rfl (by kernel_rfl) ?_,owes5E 7 [6] hf rfl rfl rfl (by kernel_rfl) ?_,owes5E 8 [4,7] hf rfl rfl rfl (by kernel_rfl) ?_,owes5E 9 [8] hf rfl rfl rfl (by kernel_rfl) ?_,owes5E 10 [8] hf rfl rfl rfl (by kernel_rfl) ?_,owes5E 11 [9,10] hf rfl rfl rfl (by kernel_rfl) ?_,owes5N 12 [11] hf rfl rfl (by kernel_rfl) ?_,owes5A 13 0 [] [0,12] hf rfl rfl rfl rfl (by kernel_rfl) rfl (by kernel_rfl) ?_,owes5E 14 [13] hf rfl rfl rfl (by kernel_rfl) ?_,trivial⟩
    all_goals intro vs W hS hp hx KO hKO
    all_goals simp only[Act.put,List.setIfInBounds_toArray,List.set_cons_zero,List.set_cons_succ]at hKO
    ·have eo:vs 14=vq:=hx.at 14 rfl (by kernel_rfl) rfl
     simp only[eo]at hKO
     go_simp
     exact hKO _ (fun g hg=>⟨rfl,hg⟩) ⟨rfl,hS.2.2.2.2.2.2.2.1⟩
    ·have fc0:=BxA.cell (hS.2.2.2.2.1) 0 (v:=.int .i64 lr) rfl
     have fc1:=BxA.cell (hS.2.2.2.2.1) 1 (v:=.int .i64 ep) rfl
     have fc2:=BxA.cell (hS.2.2.2.2.1) 2 (v:=.int .i64 d) rfl
     have fc3:=BxA.cell (hS.2.2.2.2.1) 3 (v:=.int .i64 (K:Int)) rfl
     have fc4:=BxA.cell (hS.2.2.2.2.1) 4 (v:=.int .i64 (cl:Int)) rfl
     have fc5:=BxA.cell (hS.2.2.2.2.1) 5 (v:=.int .i64 sh) rfl
     go_simp
     exact hKO _ W (Ext.refl W) rfl
    ·go_simp
     exact hKO _ W (Ext.refl W) rfl
    ·go_simp
     exact hKO _ W (Ext.refl W) rfl
    ·have e1:=isOf hp.1
     have e2:=isOf hp.2.1
     have e3:=isOf hp.2.2.1
     simp only[e1,e2,e3]at hKO
     go_simp
     cases g:mulO K x x
     ·have HN:Hid (fq k=none):=Lib.hid (by rw[HF.out];unfold squareO;rw[g];rfl)
      refine(Tryz.adaMulN (a:=x) (b:=x) lr ep d (cl:Int) sh K HK.out.1 HX.out HX.out g _).mono ?_
      rintro e W1 ⟨⟨c,hc,rfl⟩,hE⟩
      exact HPAN.out _ _ (Ext.trans hS.1 hE) (by rw[← HFQ.out,allB_no (i:=k) (by have:=HLT.out;have:=HLN.out;omega) HN.out];rfl)
     ·have g2:mulO K x x=some z1:=by rw[Hz1.out,g];rfl
      refine(Tryz.adaMulS (a:=x) (b:=x) lr ep d (cl:Int) sh K HK.out.1 HX.out HX.out g2 _).mono ?_
      rintro e W1 ⟨rfl,hE⟩
      exact hKO _ W1 hE ⟨rfl,g2⟩
    ·go_simp
     exact hKO _ W (Ext.refl W) rfl
    ·have e5:=isOf hp.1
     simp only[e5]at hKO
     go_simp
     exact hKO _ W (Ext.refl W) rfl
    ·have e6:=isOf hp.1
     simp only[e6]at hKO
     have fc1:=BxA.cell (hS.2.2.2.2.1) 1 (v:=.int .i64 ep) rfl
     go_simp
     exact hKO _ W (Ext.refl W) rfl
    ·have e4:vs 4=.int .i64 z1:=(hp.1).1
     have Gz1:Hid (mulO K x x=some z1):=Lib.hid (hp.1).2
     have e7:=isOf hp.2.1
     simp only[e4,e7]at hKO
     go_simp
     refine(Tryz.fixAddV z1 ep _ (okZ_i64 Gz1.out).1 (okZ_i64 Gz1.out).2 HE.out.1 HE.out.2 HV.out HEE.out).mono ?_
     rintro e W1 ⟨rfl,hE⟩
     exact hKO _ W1 hE rfl
    ·have e8:=isOf hp.1
     simp only[e8]at hKO
     go_simp
     exact hKO _ W (Ext.refl W) rfl
    ·have e8:=isOf hp.1
     simp only[e8]at hKO
     go_simp
     exact hKO _ W (Ext.refl W) rfl
    ·have e9:=isOf hp.1
     have e10:=isOf hp.2.1
     simp only[e9,e10]at hKO
     go_simp
     cases g:heldO V E
     ·have HN:Hid (fq k=none):=Lib.hid (by rw[HF.out];unfold squareO;exact bind_no1 (by rw[← Hz1.out,← HZ.out];exact g))
      refine(Tryz.adaHeldN V E g _).mono ?_
      rintro e W1 ⟨⟨c,hc,rfl⟩,hE⟩
      exact HPAN.out _ _ (Ext.trans hS.1 hE) (by rw[← HFQ.out,allB_no (i:=k) (by have:=HLT.out;have:=HLN.out;omega) HN.out];rfl)
     ·have g2:heldO V E=some z2:=by rw[Hz2.out,g];rfl
      refine(Tryz.adaHeldS V E g2 _).mono ?_
      rintro e W1 ⟨rfl,hE⟩
      exact hKO _ W1 hE ⟨rfl,g2⟩
    ·have e11:vs 11=.int .i64 z2:=(hp.1).1
     have Gz2:Hid (heldO V E=some z2):=Lib.hid (hp.1).2
     simp only[e11]at hKO
     have hE:=Ext.alloc1 W (.cells #[.int .i64 z2] 2)
     have hbx:=BxA.new W 2 #[.int .i64 z2]
     have hlt:=hbx.lt
     go_simp
     exact hKO _ _ hE (fun g hg=>by have hq:W.heap.size=g:=hg;exact⟨by omega,by omega⟩) ⟨_,rfl,hlt,hbx.cell 0 rfl,(by have h:=Gz2.out;rw[HZ.out]at h;exact okZ_i64 h)⟩
    ·have q0:=hp.1
     have q12:=hp.2.1
     obtain⟨ev,hr⟩:=q0
     replace ev:vs 0=vq:=ev
     have hsz:=hS.2.2.2.2.2.2.2.2.2
     refine step_append_g Tryz.underlying25 Tryz.infoI rfl _ _ rfl L hh (v:=vs 0) (u:=vs 12) rfl rfl hr q12 (by have:=sHC;have:=HLT.out;rw[outL_len];omega) (by omega) ?_
     intro v w1 hc hv hr2
     refine hKO v w1 (hc.imp_right ?_) hv hr2
     rintro⟨g,hg,hw,hr3⟩
     have hb:=hr.blk hg
     exact⟨g,hg,hw,⟨(Ext.wr hS.1 hw (by omega)),(hS.2.1.wr hw (by omega)),(hS.2.2.1.wr hw (by omega)),(hS.2.2.2.1.wr hw (by omega)),(hS.2.2.2.2.1.wr hw (by omega)),(hS.2.2.2.2.2.1.wr hw (by omega)),(Nat.le_trans hS.2.2.2.2.2.2.1 hw.apart.size),(ev ▸ hr3),(Nat.le_trans hS.2.2.2.2.2.2.2.2.1 hw.apart.size),(Nat.le_trans hS.2.2.2.2.2.2.2.2.2 hw.apart.size)⟩,fun h=>h,⟨ev,hr3⟩⟩
    ·have q13:=hp.1
     go_simp
     exact hKO _ W (Ext.refl W) rfl
   intro vs W1 hS hG hp
   clear lthsL lthhs szw1 E0 hm hv hg p2 p3 hsL hq hhs
   obtain⟨E0,hm,hv,hg,p2,p3,hsL,hq,hhs,sz1⟩:=hS
   obtain⟨h1_0,h1_1,h1_2,h1_3,h1_4,h1_5,h1_6,h1_7,h1_8,h1_9,h1_10,h1_11,h1_12,h1_13,h1_14,-⟩:=hp
   skip
   skip
   have hgr1_0:RowG L W1.heap.size W1 2 (vs 13) (outL k (valF fq)++[z2]):=h1_13
   have ev1_0:vs 14=vs 13:=h1_14
   simp only[ev1_0]
   replace h1_1:vs 1=.agg #[.int .i64 lr,.int .i64 ep,.int .i64 d,.int .i64 (K:Int),.int .i64 (cl:Int),.int .i64 sh]:=h1_1
   replace h1_2:vs 2=.int .i64 x:=h1_2
   replace h1_3:vs 3=.int .i64 x:=h1_3
   obtain⟨h1_4,Gz1⟩:=h1_4
   replace Gz1:=Lib.hid Gz1
   replace h1_4:vs 4=.int .i64 z1:=h1_4
   replace h1_5:vs 5=.pointer (some ⟨w.heap.size,0,none⟩):=h1_5
   replace h1_6:vs 6=.pointer (some ⟨w.heap.size,1,none⟩):=h1_6
   replace h1_7:vs 7=.int .i64 ep:=h1_7
   replace h1_8:vs 8=.tuple #[.int .i64 V,.int .i64 E]:=h1_8
   replace h1_9:vs 9=.int .i64 V:=h1_9
   replace h1_10:vs 10=.int .i64 E:=h1_10
   obtain⟨h1_11,Gz2⟩:=h1_11
   replace Gz2:=Lib.hid Gz2
   replace h1_11:vs 11=.int .i64 z2:=h1_11
   simp only[h1_1,h1_2,h1_3,h1_4,h1_5,h1_6,h1_7,h1_8,h1_9,h1_10,h1_11]
   clear h1_1 h1_2 h1_3 h1_4 h1_5 h1_6 h1_7 h1_8 h1_9 h1_10 h1_11 h1_0 h1_12 h1_13 h1_14
   clear sHL sHC
   have HFK:Hid (fq k=some z2):=Lib.hid (by rw[HF.out];unfold squareO;rw[Gz1.out,Option.bind_some,← HZ.out,Gz2.out])
   obtain⟨kp2_0,kp2_1,kp2_2,kp2_3,kp2_4,kp2_5⟩:=p2.c6
   obtain⟨kp3_0,kp3_1,kp3_2,kp3_3⟩:=p3.c4
   go_wp2
   clear kp2_0 kp2_1 kp2_2 kp2_3 kp2_4 kp2_5 kp3_0 kp3_1 kp3_2 kp3_3
   go_roundw
   case rel=>exact⟨k+1,_,rfl,by go_num,HLT.out,Lib.hid (grow_some' HA.out HFK.out),by rw[outL_snoc',valF_some HFK.out];exact hgr1_0,E0,hm,hv,hg,p2,p3,hsL⟩
   case measure=>simp[intOf];have:=HLT.out;omega
  ·have ek:ng=k:=by omega
   subst ek
   clear hlt hk
   obtain⟨aq,cq,rfl,hiq⟩:=hq.iw
   rw[outL_len]at hiq
   obtain⟨lq,hlq⟩:∃ l,l=outL ng (valF fq):=⟨_,rfl⟩
   rw[← hlq]at hiq hq
   have hzq:(outL ng (valF fq)).length=ng:=outL_len _ _
   have HLq:=Lib.hid hlq
   simp only[hzq]
   obtain⟨hhq,hhe⟩:∃ n,n=wr.heap.size:=⟨_,rfl⟩
   have hhsq:hhq≤wr.heap.size:=Nat.le_of_eq hhe
   rw[← hhe]at hiq
   clear hhe hq hlq hzq
   go_wp2
   refine wpAt_seq_k fun KA3 hKA3=>?_
   obtain⟨kp2_0,kp2_1,kp2_2,kp2_3,kp2_4,kp2_5⟩:=p2.c6
   obtain⟨kp3_0,kp3_1,kp3_2,kp3_3⟩:=p3.c4
   go_wp2_with fail
   clear kp2_0 kp2_1 kp2_2 kp2_3 kp2_4 kp2_5 kp3_0 kp3_1 kp3_2 kp3_3
   have p10:=BxA.new wr 25 #[.slice none 0 0]
   have hE:=Ext.alloc1 wr (.cells #[.slice none 0 0] 25)
   have lt0:=Ext.size E0
   have ltp2:=p2.lt
   have ltp3:=p3.lt
   have lthsL:=hsL
   have lthhsq:=hhsq
   obtain⟨U10,hU10⟩:∃ U10,U10=wr.alloc (.cells #[.slice none 0 0] 25):=⟨_,rfl⟩
   rw[← hU10]at p10 hE ⊢
   clear hU10
   replace E0:=(Ext.trans E0 hE)
   replace hm:=(hm.ext hE)
   replace hv:=(hv.ext hE)
   replace hg:=(hg.ext hE)
   replace p2:=(p2.ext hE)
   replace p3:=(p3.ext hE)
   replace hsL:=(Nat.le_trans hsL (Ext.size hE))
   replace hiq:=(hiq.ext hE)
   replace hhsq:=(Nat.le_trans hhsq (Ext.size hE))
   clear hE
   obtain⟨g10,hg10⟩:∃ g,g=wr.heap.size:=⟨_,rfl⟩
   rw[← hg10]at p10 lt0 ltp2 ltp3 lthsL lthhsq ⊢
   clear hg10
   have HS10:=Lib.hid (And.intro lt0 (And.intro ltp2 (And.intro ltp3 (And.intro lthsL lthhsq))))
   clear lt0 ltp2 ltp3 lthsL lthhsq
   have HQL:Hid (lq=qL K ⟨lr,ep,d⟩ lg):=Lib.hid (by rw[HLq.out,HFQ.out];unfold qL;rw[HLN.out.2.2])
   have HQN:Hid (lq.length=ng):=Lib.hid (by rw[HQL.out,qL_len,HLN.out.2.2])
   obtain⟨fm,hfm⟩:∃ f,f=mF K sh cl lm lq:=⟨_,rfl⟩
   obtain⟨fv,hfv⟩:∃ f,f=vF K sh cl lv lq:=⟨_,rfl⟩
   obtain⟨fs,hfs⟩:∃ f,f=sF cl (outL R (valF fm)) (outL cl (valF fv)):=⟨_,rfl⟩
   have HFM:=Lib.hid hfm
   have HFV:=Lib.hid hfv
   have HFS:=Lib.hid hfs
   have hmf:=mom_factored (K:=K) (sh:=sh) (lm:=lm) (lv:=lv) HC.out.1 HC.out.2.1 (HQN.out.trans HRC.out)
   rw[HQN.out,← hfm,← hfv,← hfs,HQL.out]at hmf
   have HMF:=Lib.hid hmf
   clear hfm hfv hfs hmf
   have HB1:Hid (allB lg.length (sqF K ⟨lr,ep,d⟩ lg)=true):=Lib.hid (by rw[← HFQ.out,HLN.out.2.2];exact allB_iff.2 HA.out)
   clear HA
   refine wpAt_seq_k fun KA4 hKA4=>?_
   obtain⟨kp2_0,kp2_1,kp2_2,kp2_3,kp2_4,kp2_5⟩:=p2.c6
   obtain⟨kp3_0,kp3_1,kp3_2,kp3_3⟩:=p3.c4
   have kp10_0:=p10.cell 0 (v:=.slice none 0 0) rfl
   go_wp2_with fail
   clear kp2_0 kp2_1 kp2_2 kp2_3 kp2_4 kp2_5 kp3_0 kp3_1 kp3_2 kp3_3 kp10_0
   have sHC:=HC.out
   have hcf:=Tryz.adaFac lr ep d sh K ng cl (by omega) (by omega) U10
   rw[HMF.out.1]at hcf
   refine hcf.mono ?_
   clear hcf
   rintro e V1 ⟨rfl,hE⟩
   clear sHC
   replace E0:=(Ext.trans E0 hE)
   replace hm:=(hm.ext hE)
   replace hv:=(hv.ext hE)
   replace hg:=(hg.ext hE)
   replace p2:=(p2.ext hE)
   replace p3:=(p3.ext hE)
   replace hsL:=(Nat.le_trans hsL (Ext.size hE))
   replace hiq:=(hiq.ext hE)
   replace hhsq:=(Nat.le_trans hhsq (Ext.size hE))
   replace p10:=(p10.ext hE)
   clear hE
   obtain⟨kp2_0,kp2_1,kp2_2,kp2_3,kp2_4,kp2_5⟩:=p2.c6
   obtain⟨kp3_0,kp3_1,kp3_2,kp3_3⟩:=p3.c4
   have kp10_0:=p10.cell 0 (v:=.slice none 0 0) rfl
   go_wp2
   clear kp2_0 kp2_1 kp2_2 kp2_3 kp2_4 kp2_5 kp3_0 kp3_1 kp3_2 kp3_3 kp10_0
   refine wpAt_seq ?_
   refine wpAt_seq_k fun KA5 hKA5=>?_
   obtain⟨bq,oq,ea,-,-⟩:=hiq.some (by have:=HC.out;omega)
   subst ea
   obtain⟨kp2_0,kp2_1,kp2_2,kp2_3,kp2_4,kp2_5⟩:=p2.c6
   obtain⟨kp3_0,kp3_1,kp3_2,kp3_3⟩:=p3.c4
   have kp10_0:=p10.cell 0 (v:=.slice none 0 0) rfl
   go_wp2_with fail
   clear kp2_0 kp2_1 kp2_2 kp2_3 kp2_4 kp2_5 kp3_0 kp3_1 kp3_2 kp3_3 kp10_0
   refine(Tryz.chunk_ok bq oq ng cq cl (by have:=HC.out;omega) _).mono ?_
   rintro e V2 ⟨rfl,hV2⟩
   have hE:Ext V1 V2:=by rw[hV2];exact(Ext.alloc1 _ _).alloc _
   have pS:BxA V2 V1.heap.size 25 #[.slice (some ⟨bq,oq,none⟩) ng cq]:=by rw[hV2];exact(BxA.new V1 25 #[.slice (some ⟨bq,oq,none⟩) ng cq]).ext (Ext.alloc1 _ _)
   have pN:BxA V2 (V1.heap.size+1) 3 #[.int .i64 (cl:Int)]:=by rw[hV2];simpa using BxA.new (V1.alloc (.cells #[.slice (some ⟨bq,oq,none⟩) ng cq] 25)) 3 #[.int .i64 (cl:Int)]
   have hz2:V2.heap.size=V1.heap.size+2:=by rw[hV2];simp
   clear hV2
   have ltp2:=p2.lt
   have ltp3:=p3.lt
   have lthsL:=hsL
   have lthhsq:=hhsq
   have ltp10:=p10.lt
   replace E0:=(Ext.trans E0 hE)
   replace hm:=(hm.ext hE)
   replace hv:=(hv.ext hE)
   replace hg:=(hg.ext hE)
   replace p2:=(p2.ext hE)
   replace p3:=(p3.ext hE)
   replace hsL:=(Nat.le_trans hsL (Ext.size hE))
   replace hiq:=(hiq.ext hE)
   replace hhsq:=(Nat.le_trans hhsq (Ext.size hE))
   replace p10:=(p10.ext hE)
   clear hE
   obtain⟨gS,hgS⟩:∃ g,g=V1.heap.size:=⟨_,rfl⟩
   rw[← hgS]at pS pN hz2 ltp2 ltp3 lthsL lthhsq ltp10 ⊢
   clear hgS
   obtain⟨L1,hL1⟩:∃ L,L=V2.heap.size:=⟨_,rfl⟩
   have hsL1:L1≤V2.heap.size:=Nat.le_of_eq hL1
   rw[← hL1]at hz2
   have HSS:=Lib.hid (And.intro hz2 (And.intro ltp2 (And.intro ltp3 (And.intro lthsL (And.intro lthhsq ltp10)))))
   clear hL1 hz2 ltp2 ltp3 lthsL lthhsq ltp10
   obtain⟨kp2_0,kp2_1,kp2_2,kp2_3,kp2_4,kp2_5⟩:=p2.c6
   obtain⟨kp3_0,kp3_1,kp3_2,kp3_3⟩:=p3.c4
   have kp10_0:=p10.cell 0 (v:=.slice none 0 0) rfl
   have kpS_0:=pS.cell 0 (v:=.slice (some ⟨bq,oq,none⟩) ng cq) rfl
   have kpN_0:=pN.cell 0 (v:=.int .i64 (cl:Int)) rfl
   go_wp2
   clear kp2_0 kp2_1 kp2_2 kp2_3 kp2_4 kp2_5 kp3_0 kp3_1 kp3_2 kp3_3 kp10_0 kpS_0 kpN_0
   refine wpAt_block ?_
   have hcq:=hiq.cap
   have HWV:=Lib.hid (Ext.size E0)
   obtain⟨mb,hmb⟩:∃ b,b=(allB lg.length (sqF K ⟨lr,ep,d⟩ lg) && momB K sh cl lm lv (qL K ⟨lr,ep,d⟩ lg)):=⟨_,rfl⟩
   have HMB:=Lib.hid hmb
   clear hmb
   refine wpAt_range (vals:=chunkVals bq oq cl) (can:=chunkCan gS bq oq ng cq cl) (n:=R) Tryz.func43 rfl (enters_of Tryz.func108 (by kernel_rfl) rfl) (Tryz.chunk_iter gS bq oq ng cq cl R HRC.out hcq.1 hcq.2 (by have:=HC.out;omega) (by have:=HC.out;omega)) (fun _=>rfl)
    (fun k W=>(∃ vm,BxA W g10 25 #[vm]∧RowG L1 W.heap.size W 2 vm (outL k (valF fm)))∧Hid (∀ j,j < k→fm j≠none)∧Ext w W∧Iw 0 w.heap.size W am R cm (lm)∧Iw 0 w.heap.size W av cl cv (lv)∧Iw 0 w.heap.size W ag ng cg (lg)∧BxA W w.heap.size 54 #[.int .i64 lr,.int .i64 ep,.int .i64 d,.int .i64 (K:Int),.int .i64 (cl:Int),.int .i64 sh]∧BxA W (w.heap.size+1) 27 #[.slice aw nw cw,.slice am R cm,.slice av cl cv,.slice ag ng cg]∧L≤W.heap.size∧Iw L hhq W (some ⟨bq,oq,none⟩) ng cq (lq)∧hhq≤W.heap.size∧BxA W gS 25 #[.slice (some ⟨bq,oq,none⟩) ng cq]∧BxA W ((gS+1)) 3 #[.int .i64 (cl:Int)]∧L1≤W.heap.size)
    (fun ch W=>ch=[{ v:=.iface 113 (.agg #[]),recovered:=false }]∧Ext w W∧mb=false)
    (fun k=>(Turns.and (Turns.ex fun _=>Turns.bxa.and Turns.rowG) (Turns.and (Turns.pure _ _) (Turns.and (Turns.ext (Ext.size E0)) (Turns.and Turns.iw (Turns.and Turns.iw (Turns.and Turns.iw (Turns.and Turns.bxa (Turns.and Turns.bxa (Turns.and Turns.sz (Turns.and Turns.iw (Turns.and Turns.sz (Turns.and Turns.bxa (Turns.and Turns.bxa Turns.sz))))))))))))))
    (fun k W o ⟨⟨vm,hm1,hm2⟩,HA,E0,hm,hv,hg,p2,p3,hsL,hiq,hhsq,pS,pN,hsL1⟩=>by have hE:=Ext.alloc1 W o;exact⟨⟨vm,hm1.ext hE,(hm2.ext hE).mono (Nat.le_refl _) (Ext.size hE)⟩,HA,(Ext.trans E0 hE),(hm.ext hE),(hv.ext hE),(hg.ext hE),(p2.ext hE),(p3.ext hE),(Nat.le_trans hsL (Ext.size hE)),(hiq.ext hE),(Nat.le_trans hhsq (Ext.size hE)),(pS.ext hE),(pN.ext hE),(Nat.le_trans hsL1 (Ext.size hE))⟩)
    (fun k W ⟨⟨vm,hm1,hm2⟩,HA,E0,hm,hv,hg,p2,p3,hsL,hiq,hhsq,pS,pN,hsL1⟩=>by have hE:=Ext.drew1 W;exact⟨⟨vm,hm1.ext hE,(hm2.ext hE).mono (Nat.le_refl _) (Ext.size hE)⟩,HA,(Ext.trans E0 hE),(hm.ext hE),(hv.ext hE),(hg.ext hE),(p2.ext hE),(p3.ext hE),(Nat.le_trans hsL (Ext.size hE)),(hiq.ext hE),(Nat.le_trans hhsq (Ext.size hE)),(pS.ext hE),(pN.ext hE),(Nat.le_trans hsL1 (Ext.size hE))⟩)
    ⟨⟨_,p10,RowG.nil _ _ _ _⟩,Lib.hid (fun j hj=>absurd hj (by omega)),E0,hm,hv,hg,p2,p3,hsL,hiq,hhsq,pS,pN,hsL1⟩ (fun k W _ ⟨_,_,E0,hm,hv,hg,p2,p3,hsL,hiq,hhsq,pS,pN,hsL1⟩=>⟨pS.cell 0 rfl,pN.cell 0 rfl⟩) ?hround ?hdone ?hstop
   clear E0 hm hv hg p2 p3 hsL hiq hhsq pS pN hsL1 p10 hcq
   case hround=>
    rintro l k W hlt -
    simp only[chunkVals,fold1,List.setIfInBounds_toArray,List.set_cons_succ,List.set_cons_zero]
    gi_wp2
    refine roundThenP.mk ?_
    rintro wr ⟨⟨vm,p10,hq⟩,HA,E0,hm,hv,hg,p2,p3,hsL,hiq,hhsq,pS,pN,hsL1⟩
    refine wpIn_block ?_
    have HLT:=Lib.hid hlt
    have hkj:k*cl+cl≤ng:=by rw[HRC.out,← Nat.succ_mul];exact Nat.mul_le_mul_right _ hlt
    have hrow:=hiq.chunk (k*cl) cl hkj
    have hq2:=hq.iw
    rw[outL_len]at hq2
    obtain⟨am1,cm1,rfl,-⟩:=hq2
    obtain⟨bm,om,ea,-,-⟩:=hm.some (by omega)
    subst ea
    have HX:=Lib.hid (hm.i64 hlt)
    obtain⟨mz,hmz⟩:∃ m,m=meanZ (rowL cl lq k):=⟨_,rfl⟩
    have HMZ:=Lib.hid hmz
    have HMI:Hid (I64 mz):=Lib.hid (by rw[hmz];exact meanZ_i64 _)
    have HF:Hid (fm k=blendO K sh (atL lm k) mz):=Lib.hid (by rw[HFM.out,hmz];rfl)
    clear hmz hlt
    obtain⟨j,hj⟩:∃ j,j=k*cl:=⟨_,rfl⟩
    have HJ:Hid ((outL cl fun i=>atL lq (j+i))=rowL cl lq k):=Lib.hid (by rw[hj];rfl)
    rw[← hj]at hrow ⊢
    rw[HJ.out]at hrow
    clear hj hkj HJ
    obtain⟨z2,Hz2⟩:∃ u_,u_=(blendO K sh (atL lm k) mz).getD 0:=⟨_,rfl⟩
    replace Hz2:=Lib.hid Hz2
    obtain⟨hh,hhe⟩:∃ n,n=wr.heap.size:=⟨_,rfl⟩
    have hhs:hh≤wr.heap.size:=Nat.le_of_eq hhe
    rw[← hhe]at hq
    clear hhe
    have kf:KeepsFrom V2.heap.size wr wr:=KeepsFrom.refl _ _
    have fo10:Form wr g10 25 1:=⟨_,p10,noU_slice _ _ _,rfl⟩
    have hlt:=HLT.out
    have sHL:=HL.out
    have sHC:=HC.out
    have sHS10:=HS10.out
    have sHSS:=HSS.out
    have ltp2:=p2.lt
    have ltp3:=p3.lt
    have ltpS:=pS.lt
    have ltpN:=pN.lt
    have lthsL:=hsL
    have lthhsq:=hhsq
    have lthsL1:=hsL1
    have lthhs:=hhs
    have szw2:=Ext.size E0
    refine region_in5 (by kernel_rfl) (fun ⟨_,_,h⟩=>h) [.one fun v W=>v=.slice am1 k cm1∧RowG L1 hh W 2 v (outL k (valF fm)),
      .one fun v _=>v=.agg #[.int .i64 lr,.int .i64 ep,.int .i64 d,.int .i64 (K:Int),.int .i64 (cl:Int),.int .i64 sh],
      .one fun v _=>v=.pointer (some ⟨w.heap.size+1,1,none⟩),
      .one fun v _=>v=.slice (some ⟨bm,om,none⟩) R cm,
      .one fun v _=>v=.slice am1 k cm1,
      .one fun v _=>v=.int .i64 (k:Int),
      .one fun v _=>v=.pointer (some ⟨bm,om+k,none⟩),
      .one fun v _=>v=.int .i64 (atL lm k),
      .one fun v _=>v=.slice (some ⟨bq,oq+j,none⟩) cl cl,
      .one fun v _=>v=.int .i64 mz,
      .one fun v _=>v=.int .i64 z2∧blendO K sh (atL lm k) mz=some z2,
      .one fun v W=>NewG W v z2,
      .one fun v W=>RowG L1 W.heap.size W 2 v (outL k (valF fm)++[z2]),
      .two 12 fun p _ W=>BxA W g10 25 #[p]]
     (fun W=>Ext w W∧Iw 0 w.heap.size W (some ⟨bm,om,none⟩) R cm (lm)∧Iw 0 w.heap.size W av cl cv (lv)∧Iw 0 w.heap.size W ag ng cg (lg)∧BxA W w.heap.size 54 #[.int .i64 lr,.int .i64 ep,.int .i64 d,.int .i64 (K:Int),.int .i64 (cl:Int),.int .i64 sh]∧BxA W (w.heap.size+1) 27 #[.slice aw nw cw,.slice (some ⟨bm,om,none⟩) R cm,.slice av cl cv,.slice ag ng cg]∧L≤W.heap.size∧Iw L hhq W (some ⟨bq,oq,none⟩) ng cq (lq)∧hhq≤W.heap.size∧BxA W gS 25 #[.slice (some ⟨bq,oq,none⟩) ng cq]∧BxA W ((gS+1)) 3 #[.int .i64 (cl:Int)]∧L1≤W.heap.size∧Iw L hhq W (some ⟨bq,oq+j,none⟩) cl cl (rowL cl lq k)∧RowG L1 hh W 2 (.slice am1 k cm1) (outL k (valF fm))∧hh≤W.heap.size∧KeepsFrom V2.heap.size wr W∧Form W g10 25 1∧wr.heap.size≤W.heap.size) (fun W=>BxA W g10 25 #[.slice am1 k cm1]) L1 (Ione (.slice am1 k cm1)) 13 [(0,1),(12,1),(11,3)] [Tag4.on 0,Tag4.any,Tag4.any,Tag4.any,Tag4.any,Tag4.any,Tag4.any,Tag4.any,Tag4.any,Tag4.any,Tag4.any,Tag4.on 11,Tag4.on 12,Tag4.last] ⟨tagQ,tag4_good (Good.is _),tag4_good (Good.is _),tag4_good (Good.is _),tag4_good (Good.is _),tag4_good (Good.is _),tag4_good (Good.is _),tag4_good (Good.is _),tag4_good (Good.is _),tag4_good (Good.is _),tag4_good (Good.may _ _),tagN,tagH,tag_boxL,trivial⟩
     (fun W W1 hS hE=>⟨(Ext.trans hS.1 hE),(hS.2.1.ext hE),(hS.2.2.1.ext hE),(hS.2.2.2.1.ext hE),(hS.2.2.2.2.1.ext hE),(hS.2.2.2.2.2.1.ext hE),(Nat.le_trans hS.2.2.2.2.2.2.1 (Ext.size hE)),(hS.2.2.2.2.2.2.2.1.ext hE),(Nat.le_trans hS.2.2.2.2.2.2.2.2.1 (Ext.size hE)),(hS.2.2.2.2.2.2.2.2.2.1.ext hE),(hS.2.2.2.2.2.2.2.2.2.2.1.ext hE),(Nat.le_trans hS.2.2.2.2.2.2.2.2.2.2.2.1 (Ext.size hE)),(hS.2.2.2.2.2.2.2.2.2.2.2.2.1.ext hE),(hS.2.2.2.2.2.2.2.2.2.2.2.2.2.1.ext hE),(Nat.le_trans hS.2.2.2.2.2.2.2.2.2.2.2.2.2.2.1 (Ext.size hE)),((hS.2.2.2.2.2.2.2.2.2.2.2.2.2.2.2.1).trans (KeepsFrom.of_ext hE _)),(hS.2.2.2.2.2.2.2.2.2.2.2.2.2.2.2.2.1.ext hE),(Nat.le_trans hS.2.2.2.2.2.2.2.2.2.2.2.2.2.2.2.2.2 (Ext.size hE))⟩) (fun W W1 h hE=>BxA.ext h hE) (begun_one hq (by omega) (by omega)) ⟨E0,hm,hv,hg,p2,p3,hsL,hiq,hhsq,pS,pN,hsL1,hrow,hq,hhs,kf,fo10,Nat.le_refl _⟩ p10 (by kernel_rfl) (by kernel_rfl) (by kernel_rfl) (by kernel_rfl) (A:=?A2) ?hA2 ?howe2 ?hfin2
    case hA2=>
     intro vs
     simp only[putAll,Act.put,List.setIfInBounds_toArray,List.set_cons_zero,List.set_cons_succ,Nat.zero_add,Nat.reduceAdd]
     exact rfl
    case howe2=>
     clear E0 hm hv hg p2 p3 hsL hiq hhsq pS pN hsL1 hrow hq hhs kf fo10
     intro hf
     refine⟨owes5R 0 [] hf rfl (by kernel_rfl) rfl (by kernel_rfl) ?_,owes5E 1 [] hf rfl rfl rfl (by kernel_rfl) ?_,owes5E 2 [] hf rfl rfl rfl (by kernel_rfl) ?_,owes5E 3 [2] hf rfl rfl rfl (by kernel_rfl) ?_,owes5R 4 [] hf rfl (by kernel_rfl) rfl (by kernel_rfl) ?_,owes5E 5 [4] hf rfl rfl rfl (by kernel_rfl) ?_,owes5E 6 [3,5] hf rfl rfl rfl (by kernel_rfl) ?_,owes5E 7 [6] hf rfl rfl rfl (by kernel_rfl) ?_,owes5E 8 [] hf rfl rfl rfl (by kernel_rfl) ?_,owes5E 9 [8] hf rfl rfl rfl (by kernel_rfl) ?_,owes5E 10 [1,7,9] hf rfl rfl rfl (by kernel_rfl) ?_,owes5N 11 [10] hf rfl rfl (by kernel_rfl) ?_,owes5A 12 0 [13] [0,11] hf (by kernel_rfl) rfl rfl rfl (by kernel_rfl) rfl (by kernel_rfl) ?_,owes5S g10 [12] hf rfl (by omega) (by kernel_rfl) rfl (by kernel_rfl) ?_,trivial⟩
     all_goals intro vs W hS hp hx KO hKO
     all_goals simp only[Act.put,List.setIfInBounds_toArray,List.set_cons_zero,List.set_cons_succ]at hKO
     ·have hb0:BxA W g10 25 #[.slice am1 k cm1]:=hS.2
      have fc0:=hb0.cell 0 (v:=.slice am1 k cm1) rfl
      replace hS:=hS.1
      go_simp
      exact hKO _ (.inr fun g hg=>⟨rfl,hg⟩) ⟨rfl,hS.2.2.2.2.2.2.2.2.2.2.2.2.2.1⟩
     ·have fc0:=BxA.cell (hS.2.2.2.2.1) 0 (v:=.int .i64 lr) rfl
      have fc1:=BxA.cell (hS.2.2.2.2.1) 1 (v:=.int .i64 ep) rfl
      have fc2:=BxA.cell (hS.2.2.2.2.1) 2 (v:=.int .i64 d) rfl
      have fc3:=BxA.cell (hS.2.2.2.2.1) 3 (v:=.int .i64 (K:Int)) rfl
      have fc4:=BxA.cell (hS.2.2.2.2.1) 4 (v:=.int .i64 (cl:Int)) rfl
      have fc5:=BxA.cell (hS.2.2.2.2.1) 5 (v:=.int .i64 sh) rfl
      go_simp
      exact hKO _ W (Ext.refl W) rfl
     ·go_simp
      exact hKO _ W (Ext.refl W) rfl
     ·have e2:=isOf hp.1
      simp only[e2]at hKO
      have fc1:=BxA.cell (hS.2.2.2.2.2.1) 1 (v:=.slice (some ⟨bm,om,none⟩) R cm) rfl
      go_simp
      exact hKO _ W (Ext.refl W) rfl
     ·have hb0:BxA W g10 25 #[.slice am1 k cm1]:=hS.2
      have fc0:=hb0.cell 0 (v:=.slice am1 k cm1) rfl
      go_simp
      exact hKO _ (.inl rfl) rfl
     ·have e4:=isOf hp.1
      simp only[e4]at hKO
      go_simp
      exact hKO _ W (Ext.refl W) rfl
     ·have e3:=isOf hp.1
      have e5:=isOf hp.2.1
      simp only[e3,e5]at hKO
      go_simp
      exact hKO _ W (Ext.refl W) rfl
     ·have e6:=isOf hp.1
      simp only[e6]at hKO
      have fc:=Iw.cell (hS.2.1) (i:=k) (by omega)
      go_simp
      exact hKO _ W (Ext.refl W) rfl
     ·go_simp
      exact hKO _ W (Ext.refl W) rfl
     ·have e8:=isOf hp.1
      simp only[e8]at hKO
      go_simp
      refine(Tryz.adaMeanG hS.2.2.2.2.2.2.2.2.2.2.2.2.1 (by have:=HC.out;omega) (by have:=HC.out;omega)).mono ?_
      rintro e W1 ⟨rfl,hE⟩
      rw[← HMZ.out]
      exact hKO _ W1 hE rfl
     ·have e1:=isOf hp.1
      have e7:=isOf hp.2.1
      have e9:=isOf hp.2.2.1
      simp only[e1,e7,e9]at hKO
      go_simp
      cases g:blendO K sh (atL lm k) mz
      ·have HN:Hid (fm k=none):=Lib.hid (HF.out.trans g)
       refine(Tryz.adaBlendN (old:=atL lm k) (q:=mz) lr ep d (cl:Int) sh K HK.out.1 HK.out.2.1 HK.out.2.2 HX.out HMI.out g _).mono ?_
       rintro e W1 ⟨⟨c,hc,rfl⟩,hE⟩
       exact⟨rfl,KeepsFrom.trans (hS.2.2.2.2.2.2.2.2.2.2.2.2.2.2.2.1) (KeepsFrom.of_ext hE _),rfl,Ext.trans hS.1 hE,by rw[HMB.out,HB1.out,HMF.out.2.2.2.2,allB_no HLT.out HN.out];rfl⟩
      ·have g2:blendO K sh (atL lm k) mz=some z2:=by rw[Hz2.out,g];rfl
       refine(Tryz.adaBlendS (old:=atL lm k) (q:=mz) lr ep d (cl:Int) sh K HK.out.1 HK.out.2.1 HK.out.2.2 HX.out HMI.out g2 _).mono ?_
       rintro e W1 ⟨rfl,hE⟩
       exact hKO _ W1 hE ⟨rfl,g2⟩
     ·have e10:vs 10=.int .i64 z2:=(hp.1).1
      have Gz2:Hid (blendO K sh (atL lm k) mz=some z2):=Lib.hid (hp.1).2
      simp only[e10]at hKO
      have hE:=Ext.alloc1 W (.cells #[.int .i64 z2] 2)
      have hbx:=BxA.new W 2 #[.int .i64 z2]
      have hlt:=hbx.lt
      go_simp
      exact hKO _ _ hE (fun g hg=>by have hq:W.heap.size=g:=hg;exact⟨by omega,by omega⟩) ⟨_,rfl,hlt,hbx.cell 0 rfl,(blendO_i64 Gz2.out)⟩
     ·have q0:=hp.1
      have q11:=hp.2.1
      obtain⟨ev,hr⟩:=q0
      replace ev:vs 0=(.slice am1 k cm1):=ev
      have hsz:=hS.2.2.2.2.2.2.2.2.2.2.2.2.2.2.2.2.2
      refine step_append_g Tryz.underlying25 Tryz.infoI rfl _ _ rfl L1 hh (v:=vs 0) (u:=vs 11) rfl rfl hr q11 (by have:=sHC;have:=HLT.out;rw[outL_len];omega) (by omega) ?_
      intro v w1 hc hv hr2
      refine hKO v w1 (hc.imp_right ?_) hv hr2
      rintro⟨g,hg,hw,hr3⟩
      have hb:=hr.blk hg
      exact⟨g,hg,hw,⟨(Ext.wr hS.1 hw (by omega)),(hS.2.1.wr hw (by omega)),(hS.2.2.1.wr hw (by omega)),(hS.2.2.2.1.wr hw (by omega)),(hS.2.2.2.2.1.wr hw (by omega)),(hS.2.2.2.2.2.1.wr hw (by omega)),(Nat.le_trans hS.2.2.2.2.2.2.1 hw.apart.size),(hS.2.2.2.2.2.2.2.1.wr hw (by omega)),(Nat.le_trans hS.2.2.2.2.2.2.2.2.1 hw.apart.size),(hS.2.2.2.2.2.2.2.2.2.1.wr hw (by omega)),(hS.2.2.2.2.2.2.2.2.2.2.1.wr hw (by omega)),(Nat.le_trans hS.2.2.2.2.2.2.2.2.2.2.2.1 hw.apart.size),(hS.2.2.2.2.2.2.2.2.2.2.2.2.1.wr hw (by omega)),(ev ▸ hr3),(Nat.le_trans hS.2.2.2.2.2.2.2.2.2.2.2.2.2.2.1 hw.apart.size),((hS.2.2.2.2.2.2.2.2.2.2.2.2.2.2.2.1).trans (KeepsFrom.wr hw _)),(hS.2.2.2.2.2.2.2.2.2.2.2.2.2.2.2.2.1.wr hw),(Nat.le_trans hS.2.2.2.2.2.2.2.2.2.2.2.2.2.2.2.2.2 hw.apart.size)⟩,fun h=>BxA.wr h hw (by omega),⟨ev,hr3⟩⟩
     ·have q12:=hp.1
      obtain⟨ar,nr,cr,er⟩:=RowG.noU q12
      replace er:vs 12=_:=er
      obtain⟨x0,hx0,hz0,W2,hW2,hw,hb⟩:=Form.putS hS.2.2.2.2.2.2.2.2.2.2.2.2.2.2.2.2.1 (vs 12) (fun n e=>by rw[er]at e;cases e)
      rw[er]at hW2
      simp only[er]at hKO
      go_simp
      rw[← hW2]
      exact hKO _ hw ⟨(Ext.wr hS.1 hw (by omega)),(hS.2.1.wr hw (by omega)),(hS.2.2.1.wr hw (by omega)),(hS.2.2.2.1.wr hw (by omega)),(hS.2.2.2.2.1.wr hw (by omega)),(hS.2.2.2.2.2.1.wr hw (by omega)),(Nat.le_trans hS.2.2.2.2.2.2.1 hw.apart.size),(hS.2.2.2.2.2.2.2.1.wr hw (by omega)),(Nat.le_trans hS.2.2.2.2.2.2.2.2.1 hw.apart.size),(hS.2.2.2.2.2.2.2.2.2.1.wr hw (by omega)),(hS.2.2.2.2.2.2.2.2.2.2.1.wr hw (by omega)),(Nat.le_trans hS.2.2.2.2.2.2.2.2.2.2.2.1 hw.apart.size),(hS.2.2.2.2.2.2.2.2.2.2.2.2.1.wr hw (by omega)),(hS.2.2.2.2.2.2.2.2.2.2.2.2.2.1.wr2 hw (by omega)),(Nat.le_trans hS.2.2.2.2.2.2.2.2.2.2.2.2.2.2.1 hw.apart.size),((hS.2.2.2.2.2.2.2.2.2.2.2.2.2.2.2.1).trans (KeepsFrom.wr hw _)),(hS.2.2.2.2.2.2.2.2.2.2.2.2.2.2.2.2.1.wr hw),(Nat.le_trans hS.2.2.2.2.2.2.2.2.2.2.2.2.2.2.2.2.2 hw.apart.size)⟩ hb
    intro vs W2 hS hG hp
    clear lthsL lthhsq lthsL1 lthhs szw2 E0 hm hv hg p2 p3 hsL hiq hhsq pS pN hsL1 hrow hq hhs kf fo10
    obtain⟨E0,hm,hv,hg,p2,p3,hsL,hiq,hhsq,pS,pN,hsL1,hrow,hq,hhs,kf,fo10,sz2⟩:=hS
    obtain⟨h2_0,h2_1,h2_2,h2_3,h2_4,h2_5,h2_6,h2_7,h2_8,h2_9,h2_10,h2_11,h2_12,h2_13,-⟩:=hp
    skip
    have hbx2:=h2_13
    skip
    have hgr2_0:RowG L1 W2.heap.size W2 2 (vs 12) (outL k (valF fm)++[z2]):=h2_12
    replace h2_1:vs 1=.agg #[.int .i64 lr,.int .i64 ep,.int .i64 d,.int .i64 (K:Int),.int .i64 (cl:Int),.int .i64 sh]:=h2_1
    replace h2_2:vs 2=.pointer (some ⟨w.heap.size+1,1,none⟩):=h2_2
    replace h2_3:vs 3=.slice (some ⟨bm,om,none⟩) R cm:=h2_3
    replace h2_4:vs 4=.slice am1 k cm1:=h2_4
    replace h2_5:vs 5=.int .i64 (k:Int):=h2_5
    replace h2_6:vs 6=.pointer (some ⟨bm,om+k,none⟩):=h2_6
    replace h2_7:vs 7=.int .i64 (atL lm k):=h2_7
    replace h2_8:vs 8=.slice (some ⟨bq,oq+j,none⟩) cl cl:=h2_8
    replace h2_9:vs 9=.int .i64 mz:=h2_9
    obtain⟨h2_10,Gz2⟩:=h2_10
    replace Gz2:=Lib.hid Gz2
    replace h2_10:vs 10=.int .i64 z2:=h2_10
    simp only[h2_1,h2_2,h2_3,h2_4,h2_5,h2_6,h2_7,h2_8,h2_9,h2_10]
    clear h2_1 h2_2 h2_3 h2_4 h2_5 h2_6 h2_7 h2_8 h2_9 h2_10 h2_0 h2_11 h2_12 h2_13
    clear sHL sHC sHS10 sHSS
    have HFK:Hid (fm k=some z2):=Lib.hid (by rw[HF.out,Gz2.out])
    exact⟨kf,⟨_,hbx2,by rw[outL_snoc',valF_some HFK.out];exact hgr2_0⟩,Lib.hid (grow_some' HA.out HFK.out),E0,hm,hv,hg,p2,p3,hsL,hiq,hhsq,pS,pN,hsL1⟩
   case hdone=>
    rintro D Wd hD ⟨⟨vm,p10,hq⟩,HA,E0,hm,hv,hg,p2,p3,hsL,hiq,hhsq,pS,pN,hsL1⟩ dfr
    replace dfr:Dfr D Wd:=dfr
    change wpAt _ _ _ Q _ _
    refine wpAt_of_wp ?_
    have HDW:=Lib.hid (Nat.le_trans HWV.out hD)
    clear hD
    have hq2:=hq.iw
    rw[outL_len]at hq2
    obtain⟨amm,cmm,rfl,himm⟩:=hq2
    obtain⟨lmm,hlmm⟩:∃ l,l=outL R (valF fm):=⟨_,rfl⟩
    rw[← hlmm]at himm
    have HLmm:=Lib.hid hlmm
    obtain⟨hhmm,hhe⟩:∃ n,n=Wd.heap.size:=⟨_,rfl⟩
    have hhsmm:hhmm≤Wd.heap.size:=Nat.le_of_eq hhe
    rw[← hhe]at himm
    clear hhe hq hlmm
    have HBM:Hid (allB R fm=true):=Lib.hid (allB_iff.2 HA.out)
    clear HA hm hg pS pN hsL
    obtain⟨L2,hL2⟩:∃ L,L=Wd.heap.size:=⟨_,rfl⟩
    have hsL2:L2≤Wd.heap.size:=Nat.le_of_eq hL2
    have ltp2:=p2.lt
    have ltp3:=p3.lt
    have lthhsq:=hhsq
    have lthsL1:=hsL1
    have lthhsmm:=hhsmm
    have ltp10:=p10.lt
    rw[← hL2]at ltp2 ltp3 lthhsq lthsL1 lthhsmm ltp10
    have HL2:=Lib.hid (And.intro ltp2 (And.intro ltp3 (And.intro lthhsq (And.intro lthsL1 (And.intro lthhsmm ltp10)))))
    clear hL2 ltp2 ltp3 lthhsq lthsL1 lthhsmm ltp10
    obtain⟨kp2_0,kp2_1,kp2_2,kp2_3,kp2_4,kp2_5⟩:=p2.c6
    obtain⟨kp3_0,kp3_1,kp3_2,kp3_3⟩:=p3.c4
    have kp10_0:=p10.cell 0 (v:=.slice amm R cmm) rfl
    go_wp2_with fail
    clear kp2_0 kp2_1 kp2_2 kp2_3 kp2_4 kp2_5 kp3_0 kp3_1 kp3_2 kp3_3 kp10_0
    go_loopw [11,91] (fun v i wr=>∃ (k:Nat) (vr:Value),vr=v∧i=.int .i64 (k:Int)∧k≤cl∧Hid (∀ j,j < k→fv j≠none)∧RowG L2 wr.heap.size wr 2 vr (outL k (valF fv))∧Ext w wr∧Iw 0 w.heap.size wr av cl cv (lv)∧BxA wr w.heap.size 54 #[.int .i64 lr,.int .i64 ep,.int .i64 d,.int .i64 (K:Int),.int .i64 (cl:Int),.int .i64 sh]∧BxA wr (w.heap.size+1) 27 #[.slice aw nw cw,.slice am R cm,.slice av cl cv,.slice ag ng cg]∧Iw L hhq wr (some ⟨bq,oq,none⟩) ng cq (lq)∧hhq≤wr.heap.size∧L1≤wr.heap.size∧Iw L1 hhmm wr amm R cmm (lmm)∧hhmm≤wr.heap.size∧BxA wr g10 25 #[.slice amm R cmm]∧Dfr D wr∧L2≤wr.heap.size) (fun _ i _=>cl - (intOf i).toNat)
    case atStart=>exact⟨0,_,rfl,rfl,Nat.zero_le _,Lib.hid (fun j hj=>absurd hj (by omega)),RowG.nil _ _ _ _,E0,hv,p2,p3,hiq,hhsq,hsL1,himm,hhsmm,p10,dfr,hsL2⟩
    case round=>
     clear E0 hv p2 p3 hiq hhsq hsL1 himm hhsmm p10 dfr hsL2
     obtain⟨k,vr,rfl,rfl,hk,HA,hq,E0,hv,p2,p3,hiq,hhsq,hsL1,himm,hhsmm,p10,dfr,hsL2⟩:=hrel
     by_cases hlt:k < cl
     ·have hltI:(k:Int) < (cl:Int):=by omega
      have hk0:(0:Int)≤(k:Int):=by omega
      have hk63:(k:Int) < 9223372036854775807:=by have:=HC.out;omega
      obtain⟨bv,ov,ea,-,-⟩:=hv.some (by omega)
      subst ea
      have kc:=hv.cell hlt
      have HX:=Lib.hid (hv.i64 hlt)
      obtain⟨x,hx⟩:∃ x,x=atL lv k:=⟨_,rfl⟩
      have HXX:=Lib.hid hx
      rw[← hx]at kc HX
      have HLT:=Lib.hid hlt
      obtain⟨mz,hmz⟩:∃ m,m=meanZ (colL cl lq k):=⟨_,rfl⟩
      have HMZ:=Lib.hid hmz
      have HMI:Hid (I64 mz):=Lib.hid (by rw[hmz];exact meanZ_i64 _)
      have HF:Hid (fv k=blendO K sh x mz):=Lib.hid (by rw[HFV.out,hmz,HXX.out];rfl)
      clear hmz hx
      obtain⟨fc,hfc⟩:∃ f:Nat→Int,f=fun t=>atL lq (k+t*cl):=⟨_,rfl⟩
      have HFC:=Lib.hid hfc
      clear hfc
      obtain⟨z2,Hz2⟩:∃ u_,u_=(blendO K sh x mz).getD 0:=⟨_,rfl⟩
      replace Hz2:=Lib.hid Hz2
      obtain⟨hh,hhe⟩:∃ n,n=wr.heap.size:=⟨_,rfl⟩
      have hhs:hh≤wr.heap.size:=Nat.le_of_eq hhe
      rw[← hhe]at hq
      have ltp2:=p2.lt
      have ltp3:=p3.lt
      have lthhsq:=hhsq
      have lthsL1:=hsL1
      have lthhsmm:=hhsmm
      have ltp10:=p10.lt
      have lthsL2:=hsL2
      rw[← hhe]at ltp2 ltp3 lthhsq lthsL1 lthhsmm ltp10 lthsL2
      have HHH:=Lib.hid (And.intro ltp2 (And.intro ltp3 (And.intro lthhsq (And.intro lthsL1 (And.intro lthhsmm (And.intro ltp10 lthsL2))))))
      clear hhe ltp2 ltp3 lthhsq lthsL1 lthhsmm ltp10 lthsL2
      obtain⟨kp2_0,kp2_1,kp2_2,kp2_3,kp2_4,kp2_5⟩:=p2.c6
      obtain⟨kp3_0,kp3_1,kp3_2,kp3_3⟩:=p3.c4
      have kp10_0:=p10.cell 0 (v:=.slice amm R cmm) rfl
      go_wp2_with fail
      clear kp2_0 kp2_1 kp2_2 kp2_3 kp2_4 kp2_5 kp3_0 kp3_1 kp3_2 kp3_3 kp10_0
      clear kc
      go_loopw [18,19] (fun v i wr=>∃ (j:Nat) (vc:Value),vc=v∧i=.int .i64 ((k+j*cl:Nat):Int)∧j≤R∧RowG hh wr.heap.size wr 2 vc (outL j fc)∧Ext w wr∧Iw 0 w.heap.size wr (some ⟨bv,ov,none⟩) cl cv (lv)∧BxA wr w.heap.size 54 #[.int .i64 lr,.int .i64 ep,.int .i64 d,.int .i64 (K:Int),.int .i64 (cl:Int),.int .i64 sh]∧BxA wr (w.heap.size+1) 27 #[.slice aw nw cw,.slice am R cm,.slice (some ⟨bv,ov,none⟩) cl cv,.slice ag ng cg]∧Iw L hhq wr (some ⟨bq,oq,none⟩) ng cq (lq)∧hhq≤wr.heap.size∧L1≤wr.heap.size∧Iw L1 hhmm wr amm R cmm (lmm)∧hhmm≤wr.heap.size∧BxA wr g10 25 #[.slice amm R cmm]∧Dfr D wr∧L2≤wr.heap.size∧RowG L2 hh wr 2 vr (outL k (valF fv))∧hh≤wr.heap.size) (fun _ i _=>ng+cl+cl - (intOf i).toNat)
      case atStart=>exact⟨0,_,rfl,by simp,Nat.zero_le _,RowG.nil _ _ _ _,E0,hv,p2,p3,hiq,hhsq,hsL1,himm,hhsmm,p10,dfr,hsL2,hq,hhs⟩
      case round=>
       clear E0 hv p2 p3 hiq hhsq hsL1 himm hhsmm p10 dfr hsL2 hq hhs
       obtain⟨j,vc,rfl,hi,hj,hc,E0,hv,p2,p3,hiq,hhsq,hsL1,himm,hhsmm,p10,dfr,hsL2,hq,hhs⟩:=hrel
       obtain⟨ii,hii⟩:∃ i,i=k+j*cl:=⟨_,rfl⟩
       rw[← hii]at hi
       subst hi
       have HII:=Lib.hid hii
       by_cases hjl:j < R
       ·have hil:ii < ng:=col_lt hjl HLT.out HRC.out hii
        have hiI:(ii:Int) < (ng:Int):=by omega
        have hi0:(0:Int)≤(ii:Int):=by omega
        have hi63:(ii:Int) < 9223372036854775000:=by have:=HC.out;omega
        have hic:(ii:Int)+(cl:Int)≤1000:=by have:=HC.out;omega
        have hic0:(0:Int)≤(ii:Int)+(cl:Int):=by omega
        have hwi:IntKind.i64.wrap ((ii:Int)+(cl:Int))=(ii:Int)+(cl:Int):=by rw[IntKind.wrap_i64];omega
        have HY:=Lib.hid (hiq.i64 hil)
        have HJL:=Lib.hid hjl
        have HIL:=Lib.hid hil
        obtain⟨h3,h3e⟩:∃ n,n=wr.heap.size:=⟨_,rfl⟩
        have h3s:h3≤wr.heap.size:=Nat.le_of_eq h3e
        rw[← h3e]at hc
        clear h3e hjl hii hj
        obtain⟨kp2_0,kp2_1,kp2_2,kp2_3,kp2_4,kp2_5⟩:=p2.c6
        obtain⟨kp3_0,kp3_1,kp3_2,kp3_3⟩:=p3.c4
        have kp10_0:=p10.cell 0 (v:=.slice amm R cmm) rfl
        go_upto_region 25 with (fail)
        clear kp2_0 kp2_1 kp2_2 kp2_3 kp2_4 kp2_5 kp3_0 kp3_1 kp3_2 kp3_3 kp10_0
        have sHL:=HL.out
        have sHC:=HC.out
        have sHS10:=HS10.out
        have sHSS:=HSS.out
        have sHL2:=HL2.out
        have sHHH:=HHH.out
        have ltp2:=p2.lt
        have ltp3:=p3.lt
        have ltp10:=p10.lt
        have lthhsq:=hhsq
        have lthsL1:=hsL1
        have lthhsmm:=hhsmm
        have lthsL2:=hsL2
        have lthhs:=hhs
        have lth3s:=h3s
        have szw3:=Ext.size E0
        refine region_go5 [.one fun v W=>v=vc∧RowG hh h3 W 2 v (outL j fc),
          .one fun v _=>v=.slice (some ⟨bq,oq,none⟩) ng cq,
          .one fun v _=>v=.int .i64 (ii:Int),
          .one fun v _=>v=.pointer (some ⟨bq,oq+ii,none⟩),
          .one fun v _=>v=.int .i64 (atL lq ii),
          .one fun v W=>NewG W v (atL lq ii),
          .one fun v W=>RowG hh W.heap.size W 2 v (outL j fc++[atL lq ii]),
          .two 6 fun p v _=>v=p]
         (fun W=>Ext w W∧Iw 0 w.heap.size W (some ⟨bv,ov,none⟩) cl cv (lv)∧BxA W w.heap.size 54 #[.int .i64 lr,.int .i64 ep,.int .i64 d,.int .i64 (K:Int),.int .i64 (cl:Int),.int .i64 sh]∧BxA W (w.heap.size+1) 27 #[.slice aw nw cw,.slice am R cm,.slice (some ⟨bv,ov,none⟩) cl cv,.slice ag ng cg]∧Iw L hhq W (some ⟨bq,oq,none⟩) ng cq (lq)∧hhq≤W.heap.size∧L1≤W.heap.size∧Iw L1 hhmm W amm R cmm (lmm)∧hhmm≤W.heap.size∧BxA W g10 25 #[.slice amm R cmm]∧Dfr D W∧L2≤W.heap.size∧RowG L2 hh W 2 vr (outL k (valF fv))∧hh≤W.heap.size∧RowG hh h3 W 2 vc (outL j fc)∧h3≤W.heap.size∧wr.heap.size≤W.heap.size) (fun _=>True) hh (Ione vc) 9999 [(0,1),(6,1),(5,3)] [Tag4.on 0,Tag4.any,Tag4.any,Tag4.any,Tag4.any,Tag4.on 5,Tag4.on 6,Tag4.any] ⟨tagQ,tag4_good (Good.is _),tag4_good (Good.is _),tag4_good (Good.is _),tag4_good (Good.is _),tagN,tagH,tag4_two,trivial⟩
         (fun W W1 hS hE=>⟨(Ext.trans hS.1 hE),(hS.2.1.ext hE),(hS.2.2.1.ext hE),(hS.2.2.2.1.ext hE),(hS.2.2.2.2.1.ext hE),(Nat.le_trans hS.2.2.2.2.2.1 (Ext.size hE)),(Nat.le_trans hS.2.2.2.2.2.2.1 (Ext.size hE)),(hS.2.2.2.2.2.2.2.1.ext hE),(Nat.le_trans hS.2.2.2.2.2.2.2.2.1 (Ext.size hE)),(hS.2.2.2.2.2.2.2.2.2.1.ext hE),(hS.2.2.2.2.2.2.2.2.2.2.1.ext hE),(Nat.le_trans hS.2.2.2.2.2.2.2.2.2.2.2.1 (Ext.size hE)),(hS.2.2.2.2.2.2.2.2.2.2.2.2.1.ext hE),(Nat.le_trans hS.2.2.2.2.2.2.2.2.2.2.2.2.2.1 (Ext.size hE)),(hS.2.2.2.2.2.2.2.2.2.2.2.2.2.2.1.ext hE),(Nat.le_trans hS.2.2.2.2.2.2.2.2.2.2.2.2.2.2.2.1 (Ext.size hE)),(Nat.le_trans hS.2.2.2.2.2.2.2.2.2.2.2.2.2.2.2.2 (Ext.size hE))⟩) (fun _ _ h _=>h) (begun_one hc (by omega) (by omega)) ⟨E0,hv,p2,p3,hiq,hhsq,hsL1,himm,hhsmm,p10,dfr,hsL2,hq,hhs,hc,h3s,Nat.le_refl _⟩ trivial (by kernel_rfl) (by kernel_rfl) (by kernel_rfl) (by kernel_rfl) (A:=?A3) ?hA3 ?howe3 ?hfin3
        case hA3=>
         intro vs
         simp only[putAll,Act.put,List.setIfInBounds_toArray,List.set_cons_zero,List.set_cons_succ,Nat.zero_add,Nat.reduceAdd]
         exact rfl
        case howe3=>
         clear E0 hv p2 p3 hiq hhsq hsL1 himm hhsmm p10 dfr hsL2 hq hhs hc h3s
         intro hf
         refine⟨owes5O 0 [] hf rfl rfl (by kernel_rfl) ?_,owes5E 1 [] hf rfl rfl rfl (by kernel_rfl) ?_,owes5E 2 [] hf rfl rfl rfl (by kernel_rfl) ?_,owes5E 3 [1,2] hf rfl rfl rfl (by kernel_rfl) ?_,owes5E 4 [3] hf rfl rfl rfl (by kernel_rfl) ?_,owes5N 5 [4] hf rfl rfl (by kernel_rfl) ?_,owes5A 6 0 [] [0,5] hf rfl rfl rfl rfl (by kernel_rfl) rfl (by kernel_rfl) ?_,owes5E 7 [6] hf rfl rfl rfl (by kernel_rfl) ?_,trivial⟩
         all_goals intro vs W hS hp hx KO hKO
         all_goals simp only[Act.put,List.setIfInBounds_toArray,List.set_cons_zero,List.set_cons_succ]at hKO
         ·have eo:vs 7=vc:=hx.at 7 rfl (by kernel_rfl) rfl
          simp only[eo]at hKO
          go_simp
          exact hKO _ (fun g hg=>⟨rfl,hg⟩) ⟨rfl,hS.2.2.2.2.2.2.2.2.2.2.2.2.2.2.1⟩
         ·go_simp
          exact hKO _ W (Ext.refl W) rfl
         ·go_simp
          exact hKO _ W (Ext.refl W) rfl
         ·have e1:=isOf hp.1
          have e2:=isOf hp.2.1
          simp only[e1,e2]at hKO
          go_simp
          exact hKO _ W (Ext.refl W) rfl
         ·have e3:=isOf hp.1
          simp only[e3]at hKO
          have fc:=Iw.cell (hS.2.2.2.2.1) (i:=ii) (by omega)
          go_simp
          exact hKO _ W (Ext.refl W) rfl
         ·have e4:=isOf hp.1
          simp only[e4]at hKO
          have hE:=Ext.alloc1 W (.cells #[.int .i64 (atL lq ii)] 2)
          have hbx:=BxA.new W 2 #[.int .i64 (atL lq ii)]
          have hlt:=hbx.lt
          go_simp
          exact hKO _ _ hE (fun g hg=>by have hq:W.heap.size=g:=hg;exact⟨by omega,by omega⟩) ⟨_,rfl,hlt,hbx.cell 0 rfl,HY.out⟩
         ·have q0:=hp.1
          have q5:=hp.2.1
          obtain⟨ev,hr⟩:=q0
          replace ev:vs 0=vc:=ev
          have hsz:=hS.2.2.2.2.2.2.2.2.2.2.2.2.2.2.2.2
          refine step_append_g Tryz.underlying25 Tryz.infoI rfl _ _ rfl hh h3 (v:=vs 0) (u:=vs 5) rfl rfl hr q5 (by have:=sHC;have:=HJL.out;rw[outL_len];omega) (by omega) ?_
          intro v w1 hc hv hr2
          refine hKO v w1 (hc.imp_right ?_) hv hr2
          rintro⟨g,hg,hw,hr3⟩
          have hb:=hr.blk hg
          exact⟨g,hg,hw,⟨(Ext.wr hS.1 hw (by omega)),(hS.2.1.wr hw (by omega)),(hS.2.2.1.wr hw (by omega)),(hS.2.2.2.1.wr hw (by omega)),(hS.2.2.2.2.1.wr hw (by omega)),(Nat.le_trans hS.2.2.2.2.2.1 hw.apart.size),(Nat.le_trans hS.2.2.2.2.2.2.1 hw.apart.size),(hS.2.2.2.2.2.2.2.1.wr hw (by omega)),(Nat.le_trans hS.2.2.2.2.2.2.2.2.1 hw.apart.size),(hS.2.2.2.2.2.2.2.2.2.1.wr hw (by omega)),(hS.2.2.2.2.2.2.2.2.2.2.1.wr hw),(Nat.le_trans hS.2.2.2.2.2.2.2.2.2.2.2.1 hw.apart.size),(hS.2.2.2.2.2.2.2.2.2.2.2.2.1.wr2 hw (by omega)),(Nat.le_trans hS.2.2.2.2.2.2.2.2.2.2.2.2.2.1 hw.apart.size),(ev ▸ hr3),(Nat.le_trans hS.2.2.2.2.2.2.2.2.2.2.2.2.2.2.2.1 hw.apart.size),(Nat.le_trans hS.2.2.2.2.2.2.2.2.2.2.2.2.2.2.2.2 hw.apart.size)⟩,fun h=>h,⟨ev,hr3⟩⟩
         ·have q6:=hp.1
          go_simp
          exact hKO _ W (Ext.refl W) rfl
        intro vs W3 hS hG hp
        clear lthhsq lthsL1 lthhsmm lthsL2 lthhs lth3s szw3 E0 hv p2 p3 hiq hhsq hsL1 himm hhsmm p10 dfr hsL2 hq hhs hc h3s
        obtain⟨E0,hv,p2,p3,hiq,hhsq,hsL1,himm,hhsmm,p10,dfr,hsL2,hq,hhs,hc,h3s,sz3⟩:=hS
        obtain⟨h3_0,h3_1,h3_2,h3_3,h3_4,h3_5,h3_6,h3_7,-⟩:=hp
        skip
        skip
        have hgr3_0:RowG hh W3.heap.size W3 2 (vs 6) (outL j fc++[atL lq ii]):=h3_6
        have ev3_0:vs 7=vs 6:=h3_7
        simp only[ev3_0]
        replace h3_1:vs 1=.slice (some ⟨bq,oq,none⟩) ng cq:=h3_1
        replace h3_2:vs 2=.int .i64 (ii:Int):=h3_2
        replace h3_3:vs 3=.pointer (some ⟨bq,oq+ii,none⟩):=h3_3
        replace h3_4:vs 4=.int .i64 (atL lq ii):=h3_4
        simp only[h3_1,h3_2,h3_3,h3_4]
        clear h3_1 h3_2 h3_3 h3_4 h3_0 h3_5 h3_6 h3_7
        clear sHL sHC sHS10 sHSS sHL2 sHHH
        obtain⟨kp2_0,kp2_1,kp2_2,kp2_3,kp2_4,kp2_5⟩:=p2.c6
        obtain⟨kp3_0,kp3_1,kp3_2,kp3_3⟩:=p3.c4
        have kp10_0:=p10.cell 0 (v:=.slice amm R cmm) rfl
        go_wp2
        clear kp2_0 kp2_1 kp2_2 kp2_3 kp2_4 kp2_5 kp3_0 kp3_1 kp3_2 kp3_3 kp10_0
        go_roundw
        case rel=>exact⟨j+1,_,rfl,congrArg (Value.int .i64) (by rw[Nat.succ_mul,← Nat.add_assoc,← HII.out];omega),HJL.out,by rw[outL_snoc',show fc j=atL lq ii by rw[HFC.out,HII.out]];exact hgr3_0,E0,hv,p2,p3,hiq,hhsq,hsL1,himm,hhsmm,p10,dfr,hsL2,hq,hhs⟩
        case measure=>simp[intOf];have:=HIL.out;have:=HC.out;omega
       ·have ej:R=j:=by omega
        subst ej
        have hng:¬ (ii:Int) < (ng:Int):=by have:=HRC.out;omega
        have HCL:Hid (outL R fc=colL cl lq k):=Lib.hid (by rw[HFC.out,colL_at HC.out.1 (HQN.out.trans HRC.out)])
        clear hjl hj hii
        have hc2:=hc.iw
        rw[outL_len]at hc2
        obtain⟨acc,ccc,rfl,hicc⟩:=hc2
        rw[HCL.out]at hicc
        obtain⟨hhcc,hhe⟩:∃ n,n=wr.heap.size:=⟨_,rfl⟩
        have hhscc:hhcc≤wr.heap.size:=Nat.le_of_eq hhe
        rw[← hhe]at hicc
        clear hhe hc HCL
        obtain⟨kp2_0,kp2_1,kp2_2,kp2_3,kp2_4,kp2_5⟩:=p2.c6
        obtain⟨kp3_0,kp3_1,kp3_2,kp3_3⟩:=p3.c4
        have kp10_0:=p10.cell 0 (v:=.slice amm R cmm) rfl
        go_upto_region 26 with (fail)
        clear kp2_0 kp2_1 kp2_2 kp2_3 kp2_4 kp2_5 kp3_0 kp3_1 kp3_2 kp3_3 kp10_0
        have sHL:=HL.out
        have sHC:=HC.out
        have sHS10:=HS10.out
        have sHSS:=HSS.out
        have sHL2:=HL2.out
        have sHHH:=HHH.out
        have ltp2:=p2.lt
        have ltp3:=p3.lt
        have ltp10:=p10.lt
        have lthhsq:=hhsq
        have lthsL1:=hsL1
        have lthhsmm:=hhsmm
        have lthsL2:=hsL2
        have lthhs:=hhs
        have lthhscc:=hhscc
        have szw4:=Ext.size E0
        refine region_go5 [.one fun v W=>v=vr∧RowG L2 hh W 2 v (outL k (valF fv)),
          .one fun v _=>v=.agg #[.int .i64 lr,.int .i64 ep,.int .i64 d,.int .i64 (K:Int),.int .i64 (cl:Int),.int .i64 sh],
          .one fun v _=>v=.int .i64 x,
          .one fun v _=>v=.slice acc R ccc,
          .one fun v _=>v=.int .i64 mz,
          .one fun v _=>v=.int .i64 z2∧blendO K sh x mz=some z2,
          .one fun v W=>NewG W v z2,
          .one fun v W=>RowG L2 W.heap.size W 2 v (outL k (valF fv)++[z2]),
          .two 7 fun p v _=>v=p]
         (fun W=>Ext w W∧Iw 0 w.heap.size W (some ⟨bv,ov,none⟩) cl cv (lv)∧BxA W w.heap.size 54 #[.int .i64 lr,.int .i64 ep,.int .i64 d,.int .i64 (K:Int),.int .i64 (cl:Int),.int .i64 sh]∧BxA W (w.heap.size+1) 27 #[.slice aw nw cw,.slice am R cm,.slice (some ⟨bv,ov,none⟩) cl cv,.slice ag ng cg]∧Iw L hhq W (some ⟨bq,oq,none⟩) ng cq (lq)∧hhq≤W.heap.size∧L1≤W.heap.size∧Iw L1 hhmm W amm R cmm (lmm)∧hhmm≤W.heap.size∧BxA W g10 25 #[.slice amm R cmm]∧Dfr D W∧L2≤W.heap.size∧RowG L2 hh W 2 vr (outL k (valF fv))∧hh≤W.heap.size∧Iw hh hhcc W acc R ccc (colL cl lq k)∧hhcc≤W.heap.size∧wr.heap.size≤W.heap.size) (fun _=>True) L2 (Ione vr) 9999 [(0,1),(7,1),(6,3)] [Tag4.on 0,Tag4.any,Tag4.any,Tag4.any,Tag4.any,Tag4.any,Tag4.on 6,Tag4.on 7,Tag4.any] ⟨tagQ,tag4_good (Good.is _),tag4_good (Good.is _),tag4_good (Good.is _),tag4_good (Good.is _),tag4_good (Good.may _ _),tagN,tagH,tag4_two,trivial⟩
         (fun W W1 hS hE=>⟨(Ext.trans hS.1 hE),(hS.2.1.ext hE),(hS.2.2.1.ext hE),(hS.2.2.2.1.ext hE),(hS.2.2.2.2.1.ext hE),(Nat.le_trans hS.2.2.2.2.2.1 (Ext.size hE)),(Nat.le_trans hS.2.2.2.2.2.2.1 (Ext.size hE)),(hS.2.2.2.2.2.2.2.1.ext hE),(Nat.le_trans hS.2.2.2.2.2.2.2.2.1 (Ext.size hE)),(hS.2.2.2.2.2.2.2.2.2.1.ext hE),(hS.2.2.2.2.2.2.2.2.2.2.1.ext hE),(Nat.le_trans hS.2.2.2.2.2.2.2.2.2.2.2.1 (Ext.size hE)),(hS.2.2.2.2.2.2.2.2.2.2.2.2.1.ext hE),(Nat.le_trans hS.2.2.2.2.2.2.2.2.2.2.2.2.2.1 (Ext.size hE)),(hS.2.2.2.2.2.2.2.2.2.2.2.2.2.2.1.ext hE),(Nat.le_trans hS.2.2.2.2.2.2.2.2.2.2.2.2.2.2.2.1 (Ext.size hE)),(Nat.le_trans hS.2.2.2.2.2.2.2.2.2.2.2.2.2.2.2.2 (Ext.size hE))⟩) (fun _ _ h _=>h) (begun_one hq (by omega) (by omega)) ⟨E0,hv,p2,p3,hiq,hhsq,hsL1,himm,hhsmm,p10,dfr,hsL2,hq,hhs,hicc,hhscc,Nat.le_refl _⟩ trivial (by kernel_rfl) (by kernel_rfl) (by kernel_rfl) (by kernel_rfl) (A:=?A4) ?hA4 ?howe4 ?hfin4
        case hA4=>
         intro vs
         simp only[putAll,Act.put,List.setIfInBounds_toArray,List.set_cons_zero,List.set_cons_succ,Nat.zero_add,Nat.reduceAdd]
         exact rfl
        case howe4=>
         clear E0 hv p2 p3 hiq hhsq hsL1 himm hhsmm p10 dfr hsL2 hq hhs hicc hhscc
         intro hf
         refine⟨owes5O 0 [] hf rfl rfl (by kernel_rfl) ?_,owes5E 1 [] hf rfl rfl rfl (by kernel_rfl) ?_,owes5E 2 [] hf rfl rfl rfl (by kernel_rfl) ?_,owes5E 3 [] hf rfl rfl rfl (by kernel_rfl) ?_,owes5E 4 [3] hf rfl rfl rfl (by kernel_rfl) ?_,owes5E 5 [1,2,4] hf rfl rfl rfl (by kernel_rfl) ?_,owes5N 6 [5] hf rfl rfl (by kernel_rfl) ?_,owes5A 7 0 [] [0,6] hf rfl rfl rfl rfl (by kernel_rfl) rfl (by kernel_rfl) ?_,owes5E 8 [7] hf rfl rfl rfl (by kernel_rfl) ?_,trivial⟩
         all_goals intro vs W hS hp hx KO hKO
         all_goals simp only[Act.put,List.setIfInBounds_toArray,List.set_cons_zero,List.set_cons_succ]at hKO
         ·have eo:vs 8=vr:=hx.at 8 rfl (by kernel_rfl) rfl
          simp only[eo]at hKO
          go_simp
          exact hKO _ (fun g hg=>⟨rfl,hg⟩) ⟨rfl,hS.2.2.2.2.2.2.2.2.2.2.2.2.1⟩
         ·have fc0:=BxA.cell (hS.2.2.1) 0 (v:=.int .i64 lr) rfl
          have fc1:=BxA.cell (hS.2.2.1) 1 (v:=.int .i64 ep) rfl
          have fc2:=BxA.cell (hS.2.2.1) 2 (v:=.int .i64 d) rfl
          have fc3:=BxA.cell (hS.2.2.1) 3 (v:=.int .i64 (K:Int)) rfl
          have fc4:=BxA.cell (hS.2.2.1) 4 (v:=.int .i64 (cl:Int)) rfl
          have fc5:=BxA.cell (hS.2.2.1) 5 (v:=.int .i64 sh) rfl
          go_simp
          exact hKO _ W (Ext.refl W) rfl
         ·go_simp
          exact hKO _ W (Ext.refl W) rfl
         ·go_simp
          exact hKO _ W (Ext.refl W) rfl
         ·have e3:=isOf hp.1
          simp only[e3]at hKO
          go_simp
          refine(Tryz.adaMeanG hS.2.2.2.2.2.2.2.2.2.2.2.2.2.2.1 (by have:=HC.out;omega) (by have:=HC.out;omega)).mono ?_
          rintro e W1 ⟨rfl,hE⟩
          rw[← HMZ.out]
          exact hKO _ W1 hE rfl
         ·have e1:=isOf hp.1
          have e2:=isOf hp.2.1
          have e4:=isOf hp.2.2.1
          simp only[e1,e2,e4]at hKO
          go_simp
          cases g:blendO K sh x mz
          ·have HN:Hid (fv k=none):=Lib.hid (HF.out.trans g)
           refine(Tryz.adaBlendN (old:=x) (q:=mz) lr ep d (cl:Int) sh K HK.out.1 HK.out.2.1 HK.out.2.2 HX.out HMI.out g _).mono ?_
           rintro e W1 ⟨⟨c,hc,rfl⟩,hE⟩
           exact HPAM.out D _ _ (Dfr.ext (hS.2.2.2.2.2.2.2.2.2.2.1) hE) HDW.out (Ext.trans hS.1 hE) (by rw[HB1.out,HMF.out.2.2.2.2,HBM.out,allB_no HLT.out HN.out];rfl)
          ·have g2:blendO K sh x mz=some z2:=by rw[Hz2.out,g];rfl
           refine(Tryz.adaBlendS (old:=x) (q:=mz) lr ep d (cl:Int) sh K HK.out.1 HK.out.2.1 HK.out.2.2 HX.out HMI.out g2 _).mono ?_
           rintro e W1 ⟨rfl,hE⟩
           exact hKO _ W1 hE ⟨rfl,g2⟩
         ·have e5:vs 5=.int .i64 z2:=(hp.1).1
          have Gz2:Hid (blendO K sh x mz=some z2):=Lib.hid (hp.1).2
          simp only[e5]at hKO
          have hE:=Ext.alloc1 W (.cells #[.int .i64 z2] 2)
          have hbx:=BxA.new W 2 #[.int .i64 z2]
          have hlt:=hbx.lt
          go_simp
          exact hKO _ _ hE (fun g hg=>by have hq:W.heap.size=g:=hg;exact⟨by omega,by omega⟩) ⟨_,rfl,hlt,hbx.cell 0 rfl,(blendO_i64 Gz2.out)⟩
         ·have q0:=hp.1
          have q6:=hp.2.1
          obtain⟨ev,hr⟩:=q0
          replace ev:vs 0=vr:=ev
          have hsz:=hS.2.2.2.2.2.2.2.2.2.2.2.2.2.2.2.2
          refine step_append_g Tryz.underlying25 Tryz.infoI rfl _ _ rfl L2 hh (v:=vs 0) (u:=vs 6) rfl rfl hr q6 (by have:=sHC;have:=HLT.out;rw[outL_len];omega) (by omega) ?_
          intro v w1 hc hv hr2
          refine hKO v w1 (hc.imp_right ?_) hv hr2
          rintro⟨g,hg,hw,hr3⟩
          have hb:=hr.blk hg
          exact⟨g,hg,hw,⟨(Ext.wr hS.1 hw (by omega)),(hS.2.1.wr hw (by omega)),(hS.2.2.1.wr hw (by omega)),(hS.2.2.2.1.wr hw (by omega)),(hS.2.2.2.2.1.wr hw (by omega)),(Nat.le_trans hS.2.2.2.2.2.1 hw.apart.size),(Nat.le_trans hS.2.2.2.2.2.2.1 hw.apart.size),(hS.2.2.2.2.2.2.2.1.wr hw (by omega)),(Nat.le_trans hS.2.2.2.2.2.2.2.2.1 hw.apart.size),(hS.2.2.2.2.2.2.2.2.2.1.wr hw (by omega)),(hS.2.2.2.2.2.2.2.2.2.2.1.wr hw),(Nat.le_trans hS.2.2.2.2.2.2.2.2.2.2.2.1 hw.apart.size),(ev ▸ hr3),(Nat.le_trans hS.2.2.2.2.2.2.2.2.2.2.2.2.2.1 hw.apart.size),(hS.2.2.2.2.2.2.2.2.2.2.2.2.2.2.1.wr hw (by omega)),(Nat.le_trans hS.2.2.2.2.2.2.2.2.2.2.2.2.2.2.2.1 hw.apart.size),(Nat.le_trans hS.2.2.2.2.2.2.2.2.2.2.2.2.2.2.2.2 hw.apart.size)⟩,fun h=>h,⟨ev,hr3⟩⟩
         ·have q7:=hp.1
          go_simp
          exact hKO _ W (Ext.refl W) rfl
        intro vs W4 hS hG hp
        clear lthhsq lthsL1 lthhsmm lthsL2 lthhs lthhscc szw4 E0 hv p2 p3 hiq hhsq hsL1 himm hhsmm p10 dfr hsL2 hq hhs hicc hhscc
        obtain⟨E0,hv,p2,p3,hiq,hhsq,hsL1,himm,hhsmm,p10,dfr,hsL2,hq,hhs,hicc,hhscc,sz4⟩:=hS
        obtain⟨h4_0,h4_1,h4_2,h4_3,h4_4,h4_5,h4_6,h4_7,h4_8,-⟩:=hp
        skip
        skip
        have hgr4_0:RowG L2 W4.heap.size W4 2 (vs 7) (outL k (valF fv)++[z2]):=h4_7
        have ev4_0:vs 8=vs 7:=h4_8
        simp only[ev4_0]
        replace h4_1:vs 1=.agg #[.int .i64 lr,.int .i64 ep,.int .i64 d,.int .i64 (K:Int),.int .i64 (cl:Int),.int .i64 sh]:=h4_1
        replace h4_2:vs 2=.int .i64 x:=h4_2
        replace h4_3:vs 3=.slice acc R ccc:=h4_3
        replace h4_4:vs 4=.int .i64 mz:=h4_4
        obtain⟨h4_5,Gz2⟩:=h4_5
        replace Gz2:=Lib.hid Gz2
        replace h4_5:vs 5=.int .i64 z2:=h4_5
        simp only[h4_1,h4_2,h4_3,h4_4,h4_5]
        clear h4_1 h4_2 h4_3 h4_4 h4_5 h4_0 h4_6 h4_7 h4_8
        clear sHL sHC sHS10 sHSS sHL2 sHHH
        have HFK:Hid (fv k=some z2):=Lib.hid (by rw[HF.out,Gz2.out])
        obtain⟨kp2_0,kp2_1,kp2_2,kp2_3,kp2_4,kp2_5⟩:=p2.c6
        obtain⟨kp3_0,kp3_1,kp3_2,kp3_3⟩:=p3.c4
        have kp10_0:=p10.cell 0 (v:=.slice amm R cmm) rfl
        go_wp2
        clear kp2_0 kp2_1 kp2_2 kp2_3 kp2_4 kp2_5 kp3_0 kp3_1 kp3_2 kp3_3 kp10_0
        go_roundw
        case rel=>exact⟨k+1,_,rfl,by go_num,HLT.out,Lib.hid (grow_some' HA.out HFK.out),by rw[outL_snoc',valF_some HFK.out];exact hgr4_0,E0,hv,p2,p3,hiq,hhsq,hsL1,himm,hhsmm,p10,dfr,hsL2⟩
        case measure=>simp[intOf];have:=HLT.out;omega
     ·have ek:cl=k:=by omega
      subst ek
      clear hlt hk
      have HBV:Hid (allB cl fv=true):=Lib.hid (allB_iff.2 HA.out)
      clear HA hv
      have hq2:=hq.iw
      rw[outL_len]at hq2
      obtain⟨avv,cvv,rfl,hivv⟩:=hq2
      obtain⟨lvv,hlvv⟩:∃ l,l=outL cl (valF fv):=⟨_,rfl⟩
      rw[← hlvv]at hivv
      have HLvv:=Lib.hid hlvv
      obtain⟨hhvv,hhe⟩:∃ n,n=wr.heap.size:=⟨_,rfl⟩
      have hhsvv:hhvv≤wr.heap.size:=Nat.le_of_eq hhe
      rw[← hhe]at hivv
      clear hhe hq hlvv
      obtain⟨mm,hmm⟩:∃ m,m=meanZ lmm:=⟨_,rfl⟩
      have hmi:I64 mm:=by rw[hmm];exact meanZ_i64 _
      obtain⟨dd,hdd⟩:∃ d:Nat,max mm 1=(d:Int):=⟨(max mm 1).toNat,by omega⟩
      have HDD:Hid (0 < dd∧dd < 9223372036854775808):=Lib.hid (by have:=hmi.2;omega)
      have HMM:Hid (max (meanZ lmm) 1=(dd:Int)):=Lib.hid (by rw[← hmm];exact hdd)
      clear hmi
      have hcm:=Tryz.adaMeanG himm (by have:=HC.out;omega) (by have:=HC.out;omega)
      rw[← hmm]at hcm
      clear hmm
      obtain⟨kp2_0,kp2_1,kp2_2,kp2_3,kp2_4,kp2_5⟩:=p2.c6
      obtain⟨kp3_0,kp3_1,kp3_2,kp3_3⟩:=p3.c4
      have kp10_0:=p10.cell 0 (v:=.slice amm R cmm) rfl
      go_wp2_with fail
      clear kp2_0 kp2_1 kp2_2 kp2_3 kp2_4 kp2_5 kp3_0 kp3_1 kp3_2 kp3_3 kp10_0
      refine hcm.mono ?_
      clear hcm
      rintro e V8 ⟨rfl,hE⟩
      replace E0:=(Ext.trans E0 hE)
      replace p2:=(p2.ext hE)
      replace p3:=(p3.ext hE)
      replace hiq:=(hiq.ext hE)
      replace hhsq:=(Nat.le_trans hhsq (Ext.size hE))
      replace hsL1:=(Nat.le_trans hsL1 (Ext.size hE))
      replace himm:=(himm.ext hE)
      replace hhsmm:=(Nat.le_trans hhsmm (Ext.size hE))
      replace p10:=(p10.ext hE)
      replace dfr:=(dfr.ext hE)
      replace hivv:=(hivv.ext hE)
      replace hhsvv:=(Nat.le_trans hhsvv (Ext.size hE))
      clear hE
      obtain⟨L4,hL4⟩:∃ L,L=V8.heap.size:=⟨_,rfl⟩
      have hsL4:L4≤V8.heap.size:=Nat.le_of_eq hL4
      have ltp2:=p2.lt
      have ltp3:=p3.lt
      have lthhsq:=hhsq
      have lthsL1:=hsL1
      have lthhsmm:=hhsmm
      have ltp10:=p10.lt
      have lthhsvv:=hhsvv
      rw[← hL4]at ltp2 ltp3 lthhsq lthsL1 lthhsmm ltp10 lthhsvv
      have HL4:=Lib.hid (And.intro ltp2 (And.intro ltp3 (And.intro lthhsq (And.intro lthsL1 (And.intro lthhsmm (And.intro ltp10 lthhsvv))))))
      clear hL4 ltp2 ltp3 lthhsq lthsL1 lthhsmm ltp10 lthhsvv
      obtain⟨kp2_0,kp2_1,kp2_2,kp2_3,kp2_4,kp2_5⟩:=p2.c6
      obtain⟨kp3_0,kp3_1,kp3_2,kp3_3⟩:=p3.c4
      have kp10_0:=p10.cell 0 (v:=.slice amm R cmm) rfl
      go_wp2_with fail
      clear kp2_0 kp2_1 kp2_2 kp2_3 kp2_4 kp2_5 kp3_0 kp3_1 kp3_2 kp3_3 kp10_0
      clear hdd
      go_loopw [12,126] (fun v i wr=>∃ (k:Nat) (vr:Value),vr=v∧i=.int .i64 (k:Int)∧k≤ng∧Hid (∀ j,j < k→fs j≠none)∧RowG L4 wr.heap.size wr 2 vr (outL k (valF fs))∧Ext w wr∧BxA wr w.heap.size 54 #[.int .i64 lr,.int .i64 ep,.int .i64 d,.int .i64 (K:Int),.int .i64 (cl:Int),.int .i64 sh]∧BxA wr (w.heap.size+1) 27 #[.slice aw nw cw,.slice am R cm,.slice av cl cv,.slice ag ng cg]∧Iw L hhq wr (some ⟨bq,oq,none⟩) ng cq (lq)∧hhq≤wr.heap.size∧L1≤wr.heap.size∧Iw L1 hhmm wr amm R cmm (lmm)∧hhmm≤wr.heap.size∧BxA wr g10 25 #[.slice amm R cmm]∧Dfr D wr∧Iw L2 hhvv wr avv cl cvv (lvv)∧hhvv≤wr.heap.size∧L4≤wr.heap.size) (fun _ i _=>ng - (intOf i).toNat)
      case atStart=>exact⟨0,_,rfl,rfl,Nat.zero_le _,Lib.hid (fun j hj=>absurd hj (by omega)),RowG.nil _ _ _ _,E0,p2,p3,hiq,hhsq,hsL1,himm,hhsmm,p10,dfr,hivv,hhsvv,hsL4⟩
      case round=>
       clear E0 p2 p3 hiq hhsq hsL1 himm hhsmm p10 dfr hivv hhsvv hsL4
       obtain⟨k,vr,rfl,rfl,hk,HA,hq,E0,p2,p3,hiq,hhsq,hsL1,himm,hhsmm,p10,dfr,hivv,hhsvv,hsL4⟩:=hrel
       by_cases hlt:k < ng
       ·have hltI:(k:Int) < (ng:Int):=by omega
        have hk0:(0:Int)≤(k:Int):=by omega
        have hk63:(k:Int) < 9223372036854775807:=by have:=HC.out;omega
        obtain⟨bm,om,ea,-,-⟩:=himm.some (by have:=HC.out;omega)
        subst ea
        obtain⟨bv,ov,ea,-,-⟩:=hivv.some (by have:=HC.out;omega)
        subst ea
        obtain⟨qi,hqi⟩:∃ q,q=k / cl:=⟨_,rfl⟩
        obtain⟨ri,hri⟩:∃ q,q=k % cl:=⟨_,rfl⟩
        have hqR:qi < R:=by rw[hqi];exact Nat.div_lt_of_lt_mul (by rw[Nat.mul_comm,← HRC.out];exact hlt)
        have hrc:ri < cl:=by rw[hri];exact Nat.mod_lt _ (by have:=HC.out;omega)
        have d1:=divT hqi
        have d2:(k:Int) / (cl:Int)=(qi:Int):=by rw[hqi];rfl
        have d3:IntKind.i64.wrap ((k:Int).tdiv (cl:Int))=(qi:Int):=by rw[d1,IntKind.wrap_i64];have:=HC.out;omega
        have d4:IntKind.i64.wrap (qi:Int)=(qi:Int):=by rw[IntKind.wrap_i64];have:=HC.out;omega
        have t1:(k:Int).tmod (cl:Int)=(ri:Int):=by rw[Int.tmod_eq_emod_of_nonneg hk0,hri];rfl
        have t2:(k:Int) % (cl:Int)=(ri:Int):=by rw[hri];rfl
        have t3:IntKind.i64.wrap ((k:Int).tmod (cl:Int))=(ri:Int):=by rw[t1,IntKind.wrap_i64];have:=HC.out;omega
        have t4:IntKind.i64.wrap (ri:Int)=(ri:Int):=by rw[IntKind.wrap_i64];have:=HC.out;omega
        have hv0:((cl:Int)==0)=false:=beq_eq_false_iff_ne.2 (by have:=HC.out;omega)
        have hv0a:¬ ((cl:Int)=0):=by have:=HC.out;omega
        have hv0b:¬ (cl=0):=by have:=HC.out;omega
        have HX:=Lib.hid (himm.i64 hqR)
        have HY:=Lib.hid (hivv.i64 hrc)
        have HLT:=Lib.hid hlt
        obtain⟨V,hV⟩:∃ V,fitV (ratioV (atL lmm qi*atL lvv ri) dd)=V:=⟨_,rfl⟩
        obtain⟨E,hE⟩:∃ E,fitE (ratioV (atL lmm qi*atL lvv ri) dd)=E:=⟨_,rfl⟩
        have HF:Hid (fs k=heldO V E):=Lib.hid (by rw[← hV,← hE,heldO_fit,HFS.out,← HLmm.out,← HLvv.out];unfold sF scaleO;rw[HMM.out,← hqi,← hri];rfl)
        have HV:=Lib.hid hV
        have HEE:=Lib.hid hE
        clear hV hE hqi hri
        obtain⟨z2,Hz2⟩:∃ u_,u_=(heldO V E).getD 0:=⟨_,rfl⟩
        replace Hz2:=Lib.hid Hz2
        have HZI:Hid (∀ z,heldO V E=some z→I64 z):=Lib.hid (fun z hz=>by rw[← HV.out,← HEE.out,heldO_fit]at hz;exact okZ_i64 hz)
        obtain⟨hh,hhe⟩:∃ n,n=wr.heap.size:=⟨_,rfl⟩
        have hhs:hh≤wr.heap.size:=Nat.le_of_eq hhe
        rw[← hhe]at hq
        clear hhe hk
        obtain⟨kp2_0,kp2_1,kp2_2,kp2_3,kp2_4,kp2_5⟩:=p2.c6
        obtain⟨kp3_0,kp3_1,kp3_2,kp3_3⟩:=p3.c4
        have kp10_0:=p10.cell 0 (v:=.slice (some ⟨bm,om,none⟩) R cmm) rfl
        go_upto_region 32 with (fail)
        clear kp2_0 kp2_1 kp2_2 kp2_3 kp2_4 kp2_5 kp3_0 kp3_1 kp3_2 kp3_3 kp10_0
        have sHL:=HL.out
        have sHC:=HC.out
        have sHS10:=HS10.out
        have sHSS:=HSS.out
        have sHL2:=HL2.out
        have sHL4:=HL4.out
        have ltp2:=p2.lt
        have ltp3:=p3.lt
        have ltp10:=p10.lt
        have lthhsq:=hhsq
        have lthsL1:=hsL1
        have lthhsmm:=hhsmm
        have lthhsvv:=hhsvv
        have lthsL4:=hsL4
        have lthhs:=hhs
        have szw5:=Ext.size E0
        refine region_go5 [.one fun v W=>v=vr∧RowG L4 hh W 2 v (outL k (valF fs)),
          .one fun v _=>v=.slice (some ⟨bm,om,none⟩) R cmm,
          .one fun v _=>v=.int .i64 (k:Int),
          .one fun v _=>v=.pointer (some ⟨w.heap.size,4,none⟩),
          .one fun v _=>v=.int .i64 (cl:Int),
          .one fun v _=>v=.int .i64 (qi:Int),
          .one fun v _=>v=.pointer (some ⟨bm,om+qi,none⟩),
          .one fun v _=>v=.int .i64 (atL lmm qi),
          .one fun v _=>v=.slice (some ⟨bv,ov,none⟩) cl cvv,
          .one fun v _=>v=.int .i64 (k:Int),
          .one fun v _=>v=.pointer (some ⟨w.heap.size,4,none⟩),
          .one fun v _=>v=.int .i64 (cl:Int),
          .one fun v _=>v=.int .i64 (ri:Int),
          .one fun v _=>v=.pointer (some ⟨bv,ov+ri,none⟩),
          .one fun v _=>v=.int .i64 (atL lvv ri),
          .one fun v _=>v=.int .i64 (dd:Int),
          .one fun v _=>v=.tuple #[.int .i64 V,.int .i64 E],
          .one fun v _=>v=.int .i64 V,
          .one fun v _=>v=.int .i64 E,
          .one fun v _=>v=.int .i64 z2∧heldO V E=some z2,
          .one fun v W=>NewG W v z2,
          .one fun v W=>RowG L4 W.heap.size W 2 v (outL k (valF fs)++[z2]),
          .two 21 fun p v _=>v=p]
         (fun W=>Ext w W∧BxA W w.heap.size 54 #[.int .i64 lr,.int .i64 ep,.int .i64 d,.int .i64 (K:Int),.int .i64 (cl:Int),.int .i64 sh]∧BxA W (w.heap.size+1) 27 #[.slice aw nw cw,.slice am R cm,.slice av cl cv,.slice ag ng cg]∧Iw L hhq W (some ⟨bq,oq,none⟩) ng cq (lq)∧hhq≤W.heap.size∧L1≤W.heap.size∧Iw L1 hhmm W (some ⟨bm,om,none⟩) R cmm (lmm)∧hhmm≤W.heap.size∧BxA W g10 25 #[.slice (some ⟨bm,om,none⟩) R cmm]∧Dfr D W∧Iw L2 hhvv W (some ⟨bv,ov,none⟩) cl cvv (lvv)∧hhvv≤W.heap.size∧L4≤W.heap.size∧RowG L4 hh W 2 vr (outL k (valF fs))∧hh≤W.heap.size∧wr.heap.size≤W.heap.size) (fun _=>True) L4 (Ione vr) 9999 [(0,1),(21,1),(20,3)] [Tag4.on 0,Tag4.any,Tag4.any,Tag4.any,Tag4.any,Tag4.any,Tag4.any,Tag4.any,Tag4.any,Tag4.any,Tag4.any,Tag4.any,Tag4.any,Tag4.any,Tag4.any,Tag4.any,Tag4.any,Tag4.any,Tag4.any,Tag4.any,Tag4.on 20,Tag4.on 21,Tag4.any] ⟨tagQ,tag4_good (Good.is _),tag4_good (Good.is _),tag4_good (Good.is _),tag4_good (Good.is _),tag4_good (Good.is _),tag4_good (Good.is _),tag4_good (Good.is _),tag4_good (Good.is _),tag4_good (Good.is _),tag4_good (Good.is _),tag4_good (Good.is _),tag4_good (Good.is _),tag4_good (Good.is _),tag4_good (Good.is _),tag4_good (Good.is _),tag4_good (Good.is _),tag4_good (Good.is _),tag4_good (Good.is _),tag4_good (Good.may _ _),tagN,tagH,tag4_two,trivial⟩
         (fun W W1 hS hE=>⟨(Ext.trans hS.1 hE),(hS.2.1.ext hE),(hS.2.2.1.ext hE),(hS.2.2.2.1.ext hE),(Nat.le_trans hS.2.2.2.2.1 (Ext.size hE)),(Nat.le_trans hS.2.2.2.2.2.1 (Ext.size hE)),(hS.2.2.2.2.2.2.1.ext hE),(Nat.le_trans hS.2.2.2.2.2.2.2.1 (Ext.size hE)),(hS.2.2.2.2.2.2.2.2.1.ext hE),(hS.2.2.2.2.2.2.2.2.2.1.ext hE),(hS.2.2.2.2.2.2.2.2.2.2.1.ext hE),(Nat.le_trans hS.2.2.2.2.2.2.2.2.2.2.2.1 (Ext.size hE)),(Nat.le_trans hS.2.2.2.2.2.2.2.2.2.2.2.2.1 (Ext.size hE)),(hS.2.2.2.2.2.2.2.2.2.2.2.2.2.1.ext hE),(Nat.le_trans hS.2.2.2.2.2.2.2.2.2.2.2.2.2.2.1 (Ext.size hE)),(Nat.le_trans hS.2.2.2.2.2.2.2.2.2.2.2.2.2.2.2 (Ext.size hE))⟩) (fun _ _ h _=>h) (begun_one hq (by omega) (by omega)) ⟨E0,p2,p3,hiq,hhsq,hsL1,himm,hhsmm,p10,dfr,hivv,hhsvv,hsL4,hq,hhs,Nat.le_refl _⟩ trivial (by kernel_rfl) (by kernel_rfl) (by kernel_rfl) (by kernel_rfl) (A:=?A5) ?hA5 ?howe5 ?hfin5
        case hA5=>
         intro vs
         simp only[putAll,Act.put,List.setIfInBounds_toArray,List.set_cons_zero,List.set_cons_succ,Nat.zero_add,Nat.reduceAdd]
         exact rfl
        case howe5=>
         clear E0 p2 p3 hiq hhsq hsL1 himm hhsmm p10 dfr hivv hhsvv hsL4 hq hhs
         intro hf
         refine⟨owes5O 0 [] hf rfl rfl (by kernel_rfl) ?_,owes5E 1 [] hf rfl rfl rfl (by kernel_rfl) ?_,owes5E 2 [] hf rfl rfl rfl (by kernel_rfl) ?_,owes5E 3 [] hf rfl rfl rfl (by kernel_rfl) ?_,owes5E 4 [3] hf rfl rfl rfl (by kernel_rfl) ?_,owes5E 5 [2,4] hf rfl rfl rfl (by kernel_rfl) ?_,owes5E 6 [1,5] hf rfl rfl rfl (by kernel_rfl) ?_,owes5E 7 [6] hf rfl rfl rfl (by kernel_rfl) ?_,owes5E 8 [] hf rfl rfl rfl (by kernel_rfl) ?_,owes5E 9 [] hf rfl rfl rfl (by kernel_rfl) ?_,owes5E 10 [] hf rfl rfl rfl (by kernel_rfl) ?_,owes5E 11 [10] hf rfl rfl rfl (by kernel_rfl) ?_,owes5E 12 [9,11] hf rfl rfl rfl (by kernel_rfl) ?_,owes5E 13 [8,12] hf rfl rfl rfl (by kernel_rfl) ?_,owes5E 14 [13] hf rfl rfl rfl (by kernel_rfl) ?_,owes5E 15 [] hf rfl rfl rfl (by kernel_rfl) ?_,owes5E 16 [7,14,15] hf rfl rfl rfl (by kernel_rfl) ?_,owes5E 17 [16] hf rfl rfl rfl (by kernel_rfl) ?_,owes5E 18 [16] hf rfl rfl rfl (by kernel_rfl) ?_,owes5E 19 [17,18] hf rfl rfl rfl (by kernel_rfl) ?_,owes5N 20 [19] hf rfl rfl (by kernel_rfl) ?_,owes5A 21 0 [] [0,20] hf rfl rfl rfl rfl (by kernel_rfl) rfl (by kernel_rfl) ?_,owes5E 22 [21] hf rfl rfl rfl (by kernel_rfl) ?_,trivial⟩
         all_goals intro vs W hS hp hx KO hKO
         all_goals simp only[Act.put,List.setIfInBounds_toArray,List.set_cons_zero,List.set_cons_succ]at hKO
         ·have eo:vs 22=vr:=hx.at 22 rfl (by kernel_rfl) rfl
          simp only[eo]at hKO
          go_simp
          exact hKO _ (fun g hg=>⟨rfl,hg⟩) ⟨rfl,hS.2.2.2.2.2.2.2.2.2.2.2.2.2.1⟩
         ·have fc0:=BxA.cell (hS.2.2.2.2.2.2.2.2.1) 0 (v:=.slice (some ⟨bm,om,none⟩) R cmm) rfl
          go_simp
          exact hKO _ W (Ext.refl W) rfl
         ·go_simp
          exact hKO _ W (Ext.refl W) rfl
         ·go_simp
          exact hKO _ W (Ext.refl W) rfl
         ·have e3:=isOf hp.1
          simp only[e3]at hKO
          have fc4:=BxA.cell (hS.2.1) 4 (v:=.int .i64 (cl:Int)) rfl
          go_simp
          exact hKO _ W (Ext.refl W) rfl
         ·have e2:=isOf hp.1
          have e4:=isOf hp.2.1
          simp only[e2,e4]at hKO
          go_simp
          exact hKO _ W (Ext.refl W) rfl
         ·have e1:=isOf hp.1
          have e5:=isOf hp.2.1
          simp only[e1,e5]at hKO
          go_simp
          exact hKO _ W (Ext.refl W) rfl
         ·have e6:=isOf hp.1
          simp only[e6]at hKO
          have fc:=Iw.cell (hS.2.2.2.2.2.2.1) (i:=qi) (by omega)
          go_simp
          exact hKO _ W (Ext.refl W) rfl
         ·go_simp
          exact hKO _ W (Ext.refl W) rfl
         ·go_simp
          exact hKO _ W (Ext.refl W) rfl
         ·go_simp
          exact hKO _ W (Ext.refl W) rfl
         ·have e10:=isOf hp.1
          simp only[e10]at hKO
          have fc4:=BxA.cell (hS.2.1) 4 (v:=.int .i64 (cl:Int)) rfl
          go_simp
          exact hKO _ W (Ext.refl W) rfl
         ·have e9:=isOf hp.1
          have e11:=isOf hp.2.1
          simp only[e9,e11]at hKO
          go_simp
          exact hKO _ W (Ext.refl W) rfl
         ·have e8:=isOf hp.1
          have e12:=isOf hp.2.1
          simp only[e8,e12]at hKO
          go_simp
          exact hKO _ W (Ext.refl W) rfl
         ·have e13:=isOf hp.1
          simp only[e13]at hKO
          have fc:=Iw.cell (hS.2.2.2.2.2.2.2.2.2.2.1) (i:=ri) (by omega)
          go_simp
          exact hKO _ W (Ext.refl W) rfl
         ·go_simp
          exact hKO _ W (Ext.refl W) rfl
         ·have e7:=isOf hp.1
          have e14:=isOf hp.2.1
          have e15:=isOf hp.2.2.1
          simp only[e7,e14,e15]at hKO
          go_simp
          refine(Tryz.fixScaleV (atL lmm qi) (atL lvv ri) dd _ HX.out.1 HX.out.2 HY.out.1 HY.out.2 HDD.out.1 HDD.out.2 HV.out HEE.out).mono ?_
          rintro e W1 ⟨rfl,hE⟩
          exact hKO _ W1 hE rfl
         ·have e16:=isOf hp.1
          simp only[e16]at hKO
          go_simp
          exact hKO _ W (Ext.refl W) rfl
         ·have e16:=isOf hp.1
          simp only[e16]at hKO
          go_simp
          exact hKO _ W (Ext.refl W) rfl
         ·have e17:=isOf hp.1
          have e18:=isOf hp.2.1
          simp only[e17,e18]at hKO
          go_simp
          cases g:heldO V E
          ·have HN:Hid (fs k=none):=Lib.hid (HF.out.trans g)
           refine(Tryz.adaHeldN V E g _).mono ?_
           rintro e W1 ⟨⟨c,hc,rfl⟩,hE⟩
           exact HPAM.out D _ _ (Dfr.ext (hS.2.2.2.2.2.2.2.2.2.1) hE) HDW.out (Ext.trans hS.1 hE) (by rw[HB1.out,HMF.out.2.2.2.2,HBM.out,HBV.out,allB_no HLT.out HN.out];rfl)
          ·have g2:heldO V E=some z2:=by rw[Hz2.out,g];rfl
           refine(Tryz.adaHeldS V E g2 _).mono ?_
           rintro e W1 ⟨rfl,hE⟩
           exact hKO _ W1 hE ⟨rfl,g2⟩
         ·have e19:vs 19=.int .i64 z2:=(hp.1).1
          have Gz2:Hid (heldO V E=some z2):=Lib.hid (hp.1).2
          simp only[e19]at hKO
          have hE:=Ext.alloc1 W (.cells #[.int .i64 z2] 2)
          have hbx:=BxA.new W 2 #[.int .i64 z2]
          have hlt:=hbx.lt
          go_simp
          exact hKO _ _ hE (fun g hg=>by have hq:W.heap.size=g:=hg;exact⟨by omega,by omega⟩) ⟨_,rfl,hlt,hbx.cell 0 rfl,(HZI.out _ Gz2.out)⟩
         ·have q0:=hp.1
          have q20:=hp.2.1
          obtain⟨ev,hr⟩:=q0
          replace ev:vs 0=vr:=ev
          have hsz:=hS.2.2.2.2.2.2.2.2.2.2.2.2.2.2.2
          refine step_append_g Tryz.underlying25 Tryz.infoI rfl _ _ rfl L4 hh (v:=vs 0) (u:=vs 20) rfl rfl hr q20 (by have:=sHC;have:=HLT.out;rw[outL_len];omega) (by omega) ?_
          intro v w1 hc hv hr2
          refine hKO v w1 (hc.imp_right ?_) hv hr2
          rintro⟨g,hg,hw,hr3⟩
          have hb:=hr.blk hg
          exact⟨g,hg,hw,⟨(Ext.wr hS.1 hw (by omega)),(hS.2.1.wr hw (by omega)),(hS.2.2.1.wr hw (by omega)),(hS.2.2.2.1.wr hw (by omega)),(Nat.le_trans hS.2.2.2.2.1 hw.apart.size),(Nat.le_trans hS.2.2.2.2.2.1 hw.apart.size),(hS.2.2.2.2.2.2.1.wr hw (by omega)),(Nat.le_trans hS.2.2.2.2.2.2.2.1 hw.apart.size),(hS.2.2.2.2.2.2.2.2.1.wr hw (by omega)),(hS.2.2.2.2.2.2.2.2.2.1.wr hw),(hS.2.2.2.2.2.2.2.2.2.2.1.wr hw (by omega)),(Nat.le_trans hS.2.2.2.2.2.2.2.2.2.2.2.1 hw.apart.size),(Nat.le_trans hS.2.2.2.2.2.2.2.2.2.2.2.2.1 hw.apart.size),(ev ▸ hr3),(Nat.le_trans hS.2.2.2.2.2.2.2.2.2.2.2.2.2.2.1 hw.apart.size),(Nat.le_trans hS.2.2.2.2.2.2.2.2.2.2.2.2.2.2.2 hw.apart.size)⟩,fun h=>h,⟨ev,hr3⟩⟩
         ·have q21:=hp.1
          go_simp
          exact hKO _ W (Ext.refl W) rfl
        intro vs W5 hS hG hp
        clear lthhsq lthsL1 lthhsmm lthhsvv lthsL4 lthhs szw5 E0 p2 p3 hiq hhsq hsL1 himm hhsmm p10 dfr hivv hhsvv hsL4 hq hhs
        obtain⟨E0,p2,p3,hiq,hhsq,hsL1,himm,hhsmm,p10,dfr,hivv,hhsvv,hsL4,hq,hhs,sz5⟩:=hS
        obtain⟨h5_0,h5_1,h5_2,h5_3,h5_4,h5_5,h5_6,h5_7,h5_8,h5_9,h5_10,h5_11,h5_12,h5_13,h5_14,h5_15,h5_16,h5_17,h5_18,h5_19,h5_20,h5_21,h5_22,-⟩:=hp
        skip
        skip
        have hgr5_0:RowG L4 W5.heap.size W5 2 (vs 21) (outL k (valF fs)++[z2]):=h5_21
        have ev5_0:vs 22=vs 21:=h5_22
        simp only[ev5_0]
        replace h5_1:vs 1=.slice (some ⟨bm,om,none⟩) R cmm:=h5_1
        replace h5_2:vs 2=.int .i64 (k:Int):=h5_2
        replace h5_3:vs 3=.pointer (some ⟨w.heap.size,4,none⟩):=h5_3
        replace h5_4:vs 4=.int .i64 (cl:Int):=h5_4
        replace h5_5:vs 5=.int .i64 (qi:Int):=h5_5
        replace h5_6:vs 6=.pointer (some ⟨bm,om+qi,none⟩):=h5_6
        replace h5_7:vs 7=.int .i64 (atL lmm qi):=h5_7
        replace h5_8:vs 8=.slice (some ⟨bv,ov,none⟩) cl cvv:=h5_8
        replace h5_9:vs 9=.int .i64 (k:Int):=h5_9
        replace h5_10:vs 10=.pointer (some ⟨w.heap.size,4,none⟩):=h5_10
        replace h5_11:vs 11=.int .i64 (cl:Int):=h5_11
        replace h5_12:vs 12=.int .i64 (ri:Int):=h5_12
        replace h5_13:vs 13=.pointer (some ⟨bv,ov+ri,none⟩):=h5_13
        replace h5_14:vs 14=.int .i64 (atL lvv ri):=h5_14
        replace h5_15:vs 15=.int .i64 (dd:Int):=h5_15
        replace h5_16:vs 16=.tuple #[.int .i64 V,.int .i64 E]:=h5_16
        replace h5_17:vs 17=.int .i64 V:=h5_17
        replace h5_18:vs 18=.int .i64 E:=h5_18
        obtain⟨h5_19,Gz2⟩:=h5_19
        replace Gz2:=Lib.hid Gz2
        replace h5_19:vs 19=.int .i64 z2:=h5_19
        simp only[h5_1,h5_2,h5_3,h5_4,h5_5,h5_6,h5_7,h5_8,h5_9,h5_10,h5_11,h5_12,h5_13,h5_14,h5_15,h5_16,h5_17,h5_18,h5_19]
        clear h5_1 h5_2 h5_3 h5_4 h5_5 h5_6 h5_7 h5_8 h5_9 h5_10 h5_11 h5_12 h5_13 h5_14 h5_15 h5_16 h5_17 h5_18 h5_19 h5_0 h5_20 h5_21 h5_22
        clear sHL sHC sHS10 sHSS sHL2 sHL4
        clear d1 d2 d3 d4 t1 t2 t3 t4 hv0 hv0a hv0b hqR hrc hlt
        have HFK:Hid (fs k=some z2):=Lib.hid (by rw[HF.out,Gz2.out])
        obtain⟨kp2_0,kp2_1,kp2_2,kp2_3,kp2_4,kp2_5⟩:=p2.c6
        obtain⟨kp3_0,kp3_1,kp3_2,kp3_3⟩:=p3.c4
        have kp10_0:=p10.cell 0 (v:=.slice (some ⟨bm,om,none⟩) R cmm) rfl
        go_wp2
        clear kp2_0 kp2_1 kp2_2 kp2_3 kp2_4 kp2_5 kp3_0 kp3_1 kp3_2 kp3_3 kp10_0
        go_roundw
        case rel=>exact⟨k+1,_,rfl,by go_num,HLT.out,Lib.hid (grow_some' HA.out HFK.out),by rw[outL_snoc',valF_some HFK.out];exact hgr5_0,E0,p2,p3,hiq,hhsq,hsL1,himm,hhsmm,p10,dfr,hivv,hhsvv,hsL4⟩
        case measure=>simp[intOf];have:=HLT.out;omega
       ·have ek:ng=k:=by omega
        subst ek
        clear hlt hk
        have HBS:Hid (allB ng fs=true):=Lib.hid (allB_iff.2 HA.out)
        clear HA
        have hq2:=hq.iw
        rw[outL_len]at hq2
        obtain⟨aaa,caa,rfl,hiaa⟩:=hq2
        obtain⟨laa,hlaa⟩:∃ l,l=outL ng (valF fs):=⟨_,rfl⟩
        rw[← hlaa]at hiaa
        have HLaa:=Lib.hid hlaa
        obtain⟨hhaa,hhe⟩:∃ n,n=wr.heap.size:=⟨_,rfl⟩
        have hhsaa:hhaa≤wr.heap.size:=Nat.le_of_eq hhe
        rw[← hhe]at hiaa
        clear hhe hq hlaa
        obtain⟨kp2_0,kp2_1,kp2_2,kp2_3,kp2_4,kp2_5⟩:=p2.c6
        obtain⟨kp3_0,kp3_1,kp3_2,kp3_3⟩:=p3.c4
        have kp10_0:=p10.cell 0 (v:=.slice amm R cmm) rfl
        go_wp2
        clear kp2_0 kp2_1 kp2_2 kp2_3 kp2_4 kp2_5 kp3_0 kp3_1 kp3_2 kp3_3 kp10_0
        rw[← HQ.out]
        have hb1:w.heap.size≤L1:=by have h1:=HSS.out;have h2:=HL.out;omega
        have hb2:w.heap.size≤L2:=by have h1:=HL2.out;omega
        have hb4:w.heap.size≤L4:=by have h1:=HL4.out;omega
        refine post_mark dfr (v:=.tuple #[.slice amm R cmm,.slice avv cl cvv,.slice aaa ng caa]) (by simp[results,Tryz.results43,go_sem]) ⟨E0.putObj HDW.out _,.inl ⟨by rw[HB1.out,HMF.out.2.2.2.2,HBM.out,HBV.out,HBS.out];rfl,amm,R,cmm,avv,cvv,aaa,caa,rfl,?_,?_,?_⟩⟩
        ·rw[HMF.out.2.1,← HLmm.out,World.putObj_size];exact(himm.mono hb1 hhsmm).putObj dfr rfl
        ·rw[HMF.out.2.2.1,← HLvv.out,World.putObj_size];exact(hivv.mono hb2 hhsvv).putObj dfr rfl
        ·rw[HMF.out.2.2.2.1,← HLaa.out,World.putObj_size];exact(hiaa.mono hb4 hhsaa).putObj dfr rfl
   case hstop=>
    rintro D ch W hD ⟨rfl,h1,h2⟩ hK
    exact HPAM.out D _ W hK (Nat.le_trans HWV.out hD) h1 (HMB.out.symm.trans h2)
end Go.Rt
