/-
  Adafactor: whether a step is factored; the mean of numbers, by the program.
  Adafactor: new moments by the program.
-/
import Derived.Test.YtiebflipijcnfaaGreatJC
import Derived.Test.YtiebflipijcnfaaGreatJG
namespace Go.Rt
open Go Go.RowKit Go.Proofs
theorem divT {n cl m:Nat} (h:m=n / cl):(n:Int).tdiv (cl:Int)=(m:Int):=by rw[Int.tdiv_eq_ediv_of_nonneg (by omega),h];rfl
set_option maxRecDepth 100000 in
set_option maxHeartbeats 4000000 in
theorem Tryz.adaFac (lr ep d sh:Int) (K n cl:Nat) (h1:1≤cl) (hn:n≤9223372036854775807) (w:World):
  Calls Tryz.prog 17 #[.agg #[.int .i64 lr,.int .i64 ep,.int .i64 d,.int .i64 (K:Int),.int .i64 (cl:Int),.int .i64 sh],.int .i64 (n:Int)] w fun e w'=>e=.returned (.bool (facB n cl))∧Ext w w':=by
 unfold facB
 have p2:=BxA.new w 54 #[.int .i64 lr,.int .i64 ep,.int .i64 d,.int .i64 (K:Int),.int .i64 (cl:Int),.int .i64 sh]
 have E0:=Ext.alloc1 w (.cells #[.int .i64 lr,.int .i64 ep,.int .i64 d,.int .i64 (K:Int),.int .i64 (cl:Int),.int .i64 sh] 54)
 obtain⟨m,hm⟩:∃ m,m=n / cl:=⟨_,rfl⟩
 have hmn:m≤n:=by rw[hm];exact Nat.div_le_self _ _
 have hd:=divT hm
 have hd2:(n:Int) / (cl:Int)=(m:Int):=by rw[hm];rfl
 have hd3:IntKind.i64.wrap ((n:Int).tdiv (cl:Int))=(m:Int):=by rw[hd,IntKind.wrap_i64];omega
 have hd4:IntKind.i64.wrap (m:Int)=(m:Int):=by rw[IntKind.wrap_i64];omega
 have hv0:((cl:Int)==0)=false:=beq_eq_false_iff_ne.2 (by omega)
 have hv0a:¬ ((cl:Int)=0):=by omega
 have hv0b:¬ (cl=0):=by omega
 rw[← hm]
 clear hm
 obtain⟨kp0,kp1,kp2,kp3,kp4,kp5⟩:=p2.c6
 by_cases h2:2≤cl
 ·have q1:decide ((cl:Int)≥2)=true:=decide_eq_true (by omega)
  have q1b:(2:Int)≤(cl:Int):=by omega
  rw[decide_eq_true h2,Bool.true_and]
  go_enter Tryz.func17,Tryz.ntmps17
  by_cases h3:2≤m
  ·have q2:(2:Int)≤(m:Int):=by omega
   rw[decide_eq_true h3]
   clear h1 hn hmn h2 h3
   go_wp2
   go_ret
   exact⟨rfl,E0⟩
  ·have q2:¬ (2:Int)≤(m:Int):=by omega
   rw[decide_eq_false h3]
   clear h1 hn hmn h2 h3
   go_wp2
   go_ret
   exact⟨rfl,E0⟩
 ·have q1b:¬ (2:Int)≤(cl:Int):=by omega
  rw[decide_eq_false h2,Bool.false_and]
  go_enter Tryz.func17,Tryz.ntmps17
  clear h1 hn hmn h2
  go_wp2
  go_ret
  exact⟨rfl,E0⟩
def OneRows (B:Nat) (W:World) (v:Value) (vs:List Value) (l:List Int) (k:Nat):Prop:=
 vs.length=k∧∀ i,i < k→∃ g,vs[i]? = some (.slice (some ⟨g,0,none⟩) 1 1)∧B≤g∧g < W.heap.size∧v.ownBlock≠some g∧W.cell? ⟨g,0,none⟩=some (.int .i64 (atL l i))
theorem OneRows.nil (B:Nat) (W:World) (l:List Int):OneRows B W (.slice none 0 0) [] l 0:=⟨rfl,fun i hi=>by omega⟩
theorem OneRows.push {B:Nat} {W W4:World} {v:Value} {vs:List Value} {l:List Int} {k g cap n:Nat} {t1 t2:TypeId} {v2:Value} (h:OneRows B W v vs l k) (hB:B≤W.heap.size)
  (hg:((W.alloc (.cells #[.int .i64 (atL l k)] t1)).alloc (.cells #[v2] t2)).grownBy W4 v.ownBlock) (hat:v.ownBlock=some g∨g=W.heap.size+2) (hv:∀ q,v.ownBlock=some q→q < W.heap.size):
  OneRows B W4 (.slice (some ⟨g,0,none⟩) n cap) (vs++[.slice (some ⟨W.heap.size,0,none⟩) 1 1]) l (k+1):=by
 have hs:W.heap.size+2≤W4.heap.size:=by have:=hg.size;simpa using this
 have hE:Ext W ((W.alloc (.cells #[.int .i64 (atL l k)] t1)).alloc (.cells #[v2] t2)):=(Ext.alloc1 W _).alloc _
 have hl:=h.1
 refine⟨by simp[hl],fun i hi=>?_⟩
 by_cases e:i < k
 ·obtain⟨g1,h1,h2,h3,h4,h5⟩:=h.2 i e
  refine⟨g1,?_,h2,by omega,fun q=>?_,hg.cell (hE.cell h5) (fun q=>h4 q.symm)⟩
  ·rw[List.getElem?_append_left (by omega)]
   exact h1
  ·have q':g=g1:=by simpa [Value.ownBlock] using q
   subst q'
   rcases hat with hat | hat
   ·exact h4 hat
   ·omega
 ·obtain rfl:i=k:=by omega
  have hc:((W.alloc (.cells #[.int .i64 (atL l i)] t1)).alloc (.cells #[v2] t2)).cell? ⟨W.heap.size,0,none⟩=some (.int .i64 (atL l i)):=(Ext.alloc1 (W.alloc (.cells #[.int .i64 (atL l i)] t1)) (.cells #[v2] t2)).cell ((BxA.new W t1 #[.int .i64 (atL l i)]).cell 0 rfl)
  refine⟨W.heap.size,?_,hB,by omega,fun q=>?_,hg.cell hc (fun q=>Nat.lt_irrefl _ (hv _ q.symm))⟩
  ·rw[List.getElem?_append_right (by omega),hl,Nat.sub_self]
   rfl
  ·have q':g=W.heap.size:=by simpa [Value.ownBlock] using q
   rcases hat with hat | hat
   ·have:=hv _ hat;omega
   ·omega
theorem OneRows.row {B:Nat} {W:World} {v:Value} {vs:List Value} {l:List Int} {k:Nat} (h:OneRows B W v vs l k) (hl:l.length=k) (h64:∀ x ∈ l,I64 x) (i:Nat) (hi:i < k):
  ∃ ai ci,vs[i]? = some (.slice ai (atR (l.map fun x=>[x]) i).length ci)∧Iz B W.heap.size W ai (atR (l.map fun x=>[x]) i).length ci (atR (l.map fun x=>[x]) i):=by
 obtain⟨g,h1,h2,h3,-,h5⟩:=h.2 i hi
 have e:atR (l.map fun x=>[x]) i=[atL l i]:=by
  rw[atR_eq (by simpa [hl] using hi),List.getElem_map,← atL_eq]
 rw[e]
 refine⟨_,1,h1,.inl ⟨rfl,⟨g,0,⟨.inl rfl,Nat.le_refl _,by decide,fun j hj=>?_⟩,fun _=>⟨h2,h3⟩⟩,fun x hx=>?_⟩⟩
 ·have hj':j < 1:=hj
  obtain rfl:j=0:=by omega
  exact h5
 ·simp at hx
  subst hx
  exact h64 _ (atL_mem (by omega))
theorem meanL_ones (l:List Int) (hl:0 < l.length):meanL (l.map fun x=>[x])=[meanZ l]:=by
 have e:(atR (l.map fun x=>[x]) 0).length=1:=by rw[atR_eq (by simpa using hl)];simp
 unfold meanL meanZ
 rw[e]
 rfl
set_option maxRecDepth 100000 in
set_option maxHeartbeats 8000000 in
theorem Tryz.adaMeanG {lo hh n c:Nat} {a:Option Addr} {l:List Int} {w:World} (h:Iw lo hh w a n c l) (hn0:0 < n) (hn:n≤1000):
  Calls Tryz.prog 86 #[.slice a n c] w fun e w'=>e=.returned (.int .i64 (meanZ l))∧Ext w w':=by
 obtain⟨b,o,rfl,-,-⟩:=h.some hn0
 have HL:=Lib.hid h.len
 have HI:=Lib.hid h.in64
 have HN:=Lib.hid (And.intro hn0 hn)
 have h0:=h
 have E0:=Ext.refl w
 clear h hn0 hn
 go_enter Tryz.func86,Tryz.ntmps86
 go_wp2_with fail
 go_loopw [3,10] (fun v i wr=>∃ (k:Nat) (vs:List Value),i=.int .i64 (k:Int)∧k≤n∧OwnV wr w.heap.size 25 v vs∧OneRows w.heap.size wr v vs l k∧Ext w wr) (fun _ i _=>n - (intOf i).toNat)
 case atStart=>exact⟨0,[],rfl,Nat.zero_le _,World.ownsRow_nil _ _ _ _,OneRows.nil _ _ _,E0⟩
 case round=>
  clear E0
  obtain⟨k,vs,rfl,hk,ho,hr,E0⟩:=hrel
  have hvl:=hr.1
  by_cases hlt:k < n
  ·have hltI:(k:Int) < (n:Int):=by omega
   have hc0:=(h0.ext E0).cell hlt
   have HX:=Lib.hid ((h0.ext E0).i64 hlt)
   obtain⟨x,hx⟩:∃ x,x=atL l k:=⟨_,rfl⟩
   have HXX:=Lib.hid hx
   have hk63:(k:Int) < 9223372036854775807:=by have:=HN.out;omega
   have hk0:(0:Int)≤(k:Int):=by omega
   rw[← hx]at hc0
   have HR:=Lib.hid hr
   have HV:=Lib.hid hvl
   have HK:=Lib.hid hlt
   clear hx hr hvl hk hlt
   go_upto_region 5 with (fail)
   have hlw:w.heap.size≤wr.heap.size:=Ext.size E0
   go_wp2_with (at_builtin;go_loud (refine append_v Tryz.underlying131 Tryz.infoM rfl _ _ rfl w.heap.size _ vs (some ⟨wr.heap.size,0,none⟩) 1 1 (by rfl) (by first | rfl | (show Value.slice (some ⟨wr.heap.size+1,0,none⟩) 1 1=_;simp)) (OwnV.ext ho (Ext.alloc1 _ _)) (by rw[HV.out];have:=HN.out;have:=HK.out;omega) (by simp;omega) ?_);intro g cap w4 ho4 hg4 hat4 hlt4)
   have ho2:=OwnV.ext ho (Ext.alloc (Ext.alloc1 wr (.cells #[.int .i64 x] 2)) (.cells #[.slice (some ⟨wr.heap.size,0,none⟩) 1 1] 25))
   have E5:Ext w w4:=((E0.alloc _).alloc _).grown hg4 (fun q e=>by have:=(ho.block q e).1;omega)
   rw[HXX.out]at hg4
   have hr4:=HR.out.push hlw hg4 (by simpa using hat4) (fun q e=>(ho.block q e).2) (n:=vs.length+1) (cap:=cap)
   go_roundw
   case rel=>exact⟨k+1,_,by go_num,HK.out,ho4,hr4,E5⟩
   case measure=>have:=HK.out;simp[intOf];omega
  ·have hge:¬ (k:Int) < (n:Int):=by omega
   obtain rfl:k=n:=by omega
   obtain⟨a2,c2,rfl,hm⟩:=OwnV.mw ho (lo:=w.heap.size) (hh:=wr.heap.size) (ls:=l.map fun x=>[x]) (by rw[List.length_map,HL.out,hvl]) (fun g hg=>ho.block g hg) (fun i hi=>hr.row HL.out HI.out i (by omega))
   have hmn:=Tryz.meanYes hm (by rw[List.length_map,HL.out];exact HN.out.1) (by rw[List.length_map,HL.out];exact HN.out.2) (by rw[atR_eq (by rw[List.length_map,HL.out];exact HN.out.1)];simp) (Nat.le_refl _) (oddR_false fun i hi=>by
    rw[atR_eq hi,atR_eq (by omega)]
    simp)
   rw[meanL_ones l (by rw[HL.out];exact HN.out.1)]at hmn
   obtain⟨m2,hm2⟩:∃ m,m=(l.map fun x=>[x]).length:=⟨_,rfl⟩
   rw[← hm2]at hmn ⊢
   clear hm2 hm hr hvl ho hk hlt
   go_wp2_with fail
   refine hmn.mono ?_
   clear hmn
   rintro e V ⟨a3,c3,rfl,hi2,hE⟩
   have hl1:(atR (l.map fun x=>[x]) 0).length=1:=hi2.len.symm
   rw[hl1]at hi2 ⊢
   obtain⟨b2,o2,rfl,-,-⟩:=hi2.some (by decide)
   have hc0:=hi2.cell (i:=0) (by omega)
   rw[Nat.add_zero]at hc0
   have hc1:World.cell? V ⟨b2,o2,none⟩=some (.int .i64 (meanZ l)):=hc0
   have E1:=E0.trans hE
   clear hc0 hi2 hE E0
   go_wp2
   go_ret
   exact⟨rfl,E1⟩
end Go.Rt
namespace Go.Rt
open Go Go.RowKit Go.Proofs
theorem blendO_i64 {K:Nat} {sh old q x:Int} (h:blendO K sh old q=some x):I64 x:=by
 unfold blendO at h
 simp only[Option.bind_eq_some_iff]at h
 obtain⟨_,_,_,_,h⟩:=h
 exact okZ_fits h
theorem outL_snoc' (k:Nat) (f:Nat→Int):outL (k+1) f=outL k f++[f k]:=by
 unfold outL
 rw[List.range_succ,List.map_append]
 rfl
theorem mom_places {K:Nat} {sh:Int} {cl:Nat} {lm lv q:List Int} (hf:facB q.length cl=false):mL K sh cl lm q=[]∧vL K sh cl lv q=outL q.length (valF (pF K sh lv q))∧sL K sh cl lm lv q=outL q.length (valF (pF K sh lv q))∧momB K sh cl lm lv q=allB q.length (pF K sh lv q):=by
 unfold mL vL sL momB
 rw[hf]
 exact⟨rfl,rfl,rfl,rfl⟩
theorem grow_some' {f:Nat→Option Int} {k:Nat} {r:Int} (h:∀ j,j < k→f j≠none) (hk:f k=some r):∀ j,j < k+1→f j≠none:=fun j hj=>by
 rcases Nat.lt_or_ge j k with h1 | h1
 ·exact h j h1
 ·obtain rfl:j=k:=by omega
  rw[hk]
  simp
set_option maxRecDepth 100000 in
set_option maxHeartbeats 16000000 in
theorem Tryz.adaMomentsP {am av ag aw:Option Addr} {cm cv ng cg nw cw:Nat} {lm lv lg:List Int} (lr ep d sh:Int) (K cl:Nat) (w:World) (hK:K≤40) (h0:0≤sh) (h1:sh≤oneZ K) (he:I64 ep) (hc1:1≤cl) (hn:ng≤40) (hf:facB ng cl=false)
  (hm:Iw 0 w.heap.size w am 0 cm lm) (hv:Iw 0 w.heap.size w av ng cv lv) (hg:Iw 0 w.heap.size w ag ng cg lg):
  Calls Tryz.prog 43 #[.agg #[.int .i64 lr,.int .i64 ep,.int .i64 d,.int .i64 (K:Int),.int .i64 (cl:Int),.int .i64 sh],.agg #[.slice aw nw cw,.slice am 0 cm,.slice av ng cv,.slice ag ng cg]] w fun e w'=>Ext w w'∧(((allB lg.length (sqF K ⟨lr,ep,d⟩ lg) && momB K sh cl lm lv (qL K ⟨lr,ep,d⟩ lg))=true∧∃ a1 n1 c1 a2 c2 a3 c3,e=.returned (.tuple #[.slice a1 n1 c1,.slice a2 ng c2,.slice a3 ng c3])∧Iw w.heap.size w'.heap.size w' a1 n1 c1 (mL K sh cl lm (qL K ⟨lr,ep,d⟩ lg))∧Iw w.heap.size w'.heap.size w' a2 ng c2 (vL K sh cl lv (qL K ⟨lr,ep,d⟩ lg))∧Iw w.heap.size w'.heap.size w' a3 ng c3 (sL K sh cl lm lv (qL K ⟨lr,ep,d⟩ lg)))∨((allB lg.length (sqF K ⟨lr,ep,d⟩ lg) && momB K sh cl lm lv (qL K ⟨lr,ep,d⟩ lg))=false∧e=.panicked [{ v:=.iface 113 (.agg #[]),recovered:=false }])):=by
 have HK:=Lib.hid (And.intro hK (And.intro h0 h1))
 have HE:=Lib.hid he
 have HC:=Lib.hid (And.intro hc1 hn)
 have HFA:=Lib.hid hf
 have HLN:=Lib.hid (And.intro hm.len (And.intro hv.len hg.len))
 have HIG:=Lib.hid (And.intro hm.in64 (And.intro hv.in64 hg.in64))
 clear hK h0 h1 he hc1 hn hf
 obtain⟨fq,hfq⟩:∃ f,f=sqF K ⟨lr,ep,d⟩ lg:=⟨_,rfl⟩
 have HFQ:=Lib.hid hfq
 clear hfq
 obtain⟨W0,hW0⟩:∃ W0,W0=((w.alloc (.cells #[.int .i64 lr,.int .i64 ep,.int .i64 d,.int .i64 (K:Int),.int .i64 (cl:Int),.int .i64 sh] 54)).alloc (.cells #[.slice aw nw cw,.slice am 0 cm,.slice av ng cv,.slice ag ng cg] 27)):=⟨_,rfl⟩
 have E0:Ext w W0:=by rw[hW0];exact((Ext.alloc1 w (.cells #[.int .i64 lr,.int .i64 ep,.int .i64 d,.int .i64 (K:Int),.int .i64 (cl:Int),.int .i64 sh] 54)).alloc (.cells #[.slice aw nw cw,.slice am 0 cm,.slice av ng cv,.slice ag ng cg] 27))
 replace hm:Iw 0 w.heap.size W0 am 0 cm (lm):=hm.ext E0
 replace hv:Iw 0 w.heap.size W0 av ng cv (lv):=hv.ext E0
 replace hg:Iw 0 w.heap.size W0 ag ng cg (lg):=hg.ext E0
 have p2:BxA W0 w.heap.size 54 #[.int .i64 lr,.int .i64 ep,.int .i64 d,.int .i64 (K:Int),.int .i64 (cl:Int),.int .i64 sh]:=by rw[hW0];exact(BxA.new w 54 #[.int .i64 lr,.int .i64 ep,.int .i64 d,.int .i64 (K:Int),.int .i64 (cl:Int),.int .i64 sh]).ext (Ext.alloc1 (w.alloc (.cells #[.int .i64 lr,.int .i64 ep,.int .i64 d,.int .i64 (K:Int),.int .i64 (cl:Int),.int .i64 sh] 54)) (.cells #[.slice aw nw cw,.slice am 0 cm,.slice av ng cv,.slice ag ng cg] 27))
 have p3:BxA W0 (w.heap.size+1) 27 #[.slice aw nw cw,.slice am 0 cm,.slice av ng cv,.slice ag ng cg]:=by rw[hW0];simpa using (BxA.new (w.alloc (.cells #[.int .i64 lr,.int .i64 ep,.int .i64 d,.int .i64 (K:Int),.int .i64 (cl:Int),.int .i64 sh] 54)) 27 #[.slice aw nw cw,.slice am 0 cm,.slice av ng cv,.slice ag ng cg])
 go_enter Tryz.func43,Tryz.ntmps43
 obtain⟨L,hL⟩:∃ L,L=W0.heap.size:=⟨_,rfl⟩
 have HL:Hid (w.heap.size+1 < L):=Lib.hid (by have:=p3.lt;omega)
 have hsL:L≤W0.heap.size:=Nat.le_of_eq hL
 clear hL
 obtain⟨kp2_0,kp2_1,kp2_2,kp2_3,kp2_4,kp2_5⟩:=p2.c6
 obtain⟨kp3_0,kp3_1,kp3_2,kp3_3⟩:=p3.c4
 go_wp2_with fail
 rw[← hW0]
 clear hW0
 clear kp2_0 kp2_1 kp2_2 kp2_3 kp2_4 kp2_5 kp3_0 kp3_1 kp3_2 kp3_3
 go_loopw [7,25] (fun v i wr=>∃ (k:Nat) (vq:Value),vq=v∧i=.int .i64 (k:Int)∧k≤ng∧Hid (∀ j,j < k→fq j≠none)∧RowG L wr.heap.size wr 2 vq (outL k (valF fq))∧Ext w wr∧Iw 0 w.heap.size wr am 0 cm (lm)∧Iw 0 w.heap.size wr av ng cv (lv)∧Iw 0 w.heap.size wr ag ng cg (lg)∧BxA wr w.heap.size 54 #[.int .i64 lr,.int .i64 ep,.int .i64 d,.int .i64 (K:Int),.int .i64 (cl:Int),.int .i64 sh]∧BxA wr (w.heap.size+1) 27 #[.slice aw nw cw,.slice am 0 cm,.slice av ng cv,.slice ag ng cg]∧L≤wr.heap.size) (fun _ i _=>ng - (intOf i).toNat)
 case atStart=>exact⟨0,_,rfl,rfl,Nat.zero_le _,Lib.hid (fun j hj=>absurd hj (by omega)),RowG.nil _ _ _ _,E0,hm,hv,hg,p2,p3,hsL⟩
 case round=>
  clear E0 hm hv hg p2 p3 hsL
  obtain⟨k,vq,rfl,rfl,hk,HA,hq,E0,hm,hv,hg,p2,p3,hsL⟩:=hrel
  by_cases hlt:k < ng
  ·have hltI:(k:Int) < (ng:Int):=by omega
   have hk0:(0:Int)≤(k:Int):=by omega
   have hk63:(k:Int) < 9223372036854775807:=by have:=HC.out;omega
   obtain⟨bg,og,ea,-,-⟩:=hg.some (by omega)
   subst ea
   have kc:=hg.cell hlt
   have HX:=Lib.hid (hg.i64 hlt)
   obtain⟨x,hx⟩:∃ x,x=atL lg k:=⟨_,rfl⟩
   have HXX:=Lib.hid hx
   rw[← hx]at kc HX
   have HLT:=Lib.hid hlt
   obtain⟨z1,Hz1⟩:∃ u_,u_=(mulO K x x).getD 0:=⟨_,rfl⟩
   replace Hz1:=Lib.hid Hz1
   obtain⟨V,hV⟩:∃ V,fitV (z1+ep)=V:=⟨_,rfl⟩
   obtain⟨E,hE⟩:∃ E,fitE (z1+ep)=E:=⟨_,rfl⟩
   have HZ:Hid (heldO V E=addO z1 ep):=Lib.hid (by rw[← hV,← hE];exact heldO_fit _)
   have HV:=Lib.hid hV
   have HEE:=Lib.hid hE
   clear hV hE hx
   obtain⟨z2,Hz2⟩:∃ u_,u_=(heldO V E).getD 0:=⟨_,rfl⟩
   replace Hz2:=Lib.hid Hz2
   have HF:Hid (fq k=squareO K ep x):=Lib.hid (by rw[HFQ.out,HXX.out];rfl)
   obtain⟨hh,hhe⟩:∃ n,n=wr.heap.size:=⟨_,rfl⟩
   have hhs:hh≤wr.heap.size:=Nat.le_of_eq hhe
   rw[← hhe]at hq
   have HHE:=Lib.hid hhe
   clear hhe hlt hk
   obtain⟨kp2_0,kp2_1,kp2_2,kp2_3,kp2_4,kp2_5⟩:=p2.c6
   obtain⟨kp3_0,kp3_1,kp3_2,kp3_3⟩:=p3.c4
   go_upto_region 5 with (fail)
   clear kp2_0 kp2_1 kp2_2 kp2_3 kp2_4 kp2_5 kp3_0 kp3_1 kp3_2 kp3_3
   clear kc
   have sHL:=HL.out
   have sHC:=HC.out
   have ltp2:=p2.lt
   have ltp3:=p3.lt
   have lthsL:=hsL
   have lthhs:=hhs
   have szw1:=Ext.size E0
   refine region_go5 [.one fun v W=>v=vq∧RowG L hh W 2 v (outL k (valF fq)),
     .one fun v _=>v=.agg #[.int .i64 lr,.int .i64 ep,.int .i64 d,.int .i64 (K:Int),.int .i64 (cl:Int),.int .i64 sh],
     .one fun v _=>v=.int .i64 x,
     .one fun v _=>v=.int .i64 x,
     .one fun v _=>v=.int .i64 z1∧mulO K x x=some z1,
     .one fun v _=>v=.pointer (some ⟨w.heap.size,0,none⟩),
     .one fun v _=>v=.pointer (some ⟨w.heap.size,1,none⟩),
     .one fun v _=>v=.int .i64 ep,
     .one fun v _=>v=.tuple #[.int .i64 V,.int .i64 E],
     .one fun v _=>v=.int .i64 V,
     .one fun v _=>v=.int .i64 E,
     .one fun v _=>v=.int .i64 z2∧heldO V E=some z2,
     .one fun v W=>NewG W v z2,
     .one fun v W=>RowG L W.heap.size W 2 v (outL k (valF fq)++[z2]),
     .two 13 fun p v _=>v=p]
    (fun W=>Ext w W∧Iw 0 w.heap.size W am 0 cm (lm)∧Iw 0 w.heap.size W av ng cv (lv)∧Iw 0 w.heap.size W (some ⟨bg,og,none⟩) ng cg (lg)∧BxA W w.heap.size 54 #[.int .i64 lr,.int .i64 ep,.int .i64 d,.int .i64 (K:Int),.int .i64 (cl:Int),.int .i64 sh]∧BxA W (w.heap.size+1) 27 #[.slice aw nw cw,.slice am 0 cm,.slice av ng cv,.slice (some ⟨bg,og,none⟩) ng cg]∧L≤W.heap.size∧RowG L hh W 2 vq (outL k (valF fq))∧hh≤W.heap.size∧wr.heap.size≤W.heap.size) (fun _=>True) L (Ione vq) 9999 [(0,1),(13,1),(12,3)] [Tag4.on 0,Tag4.any,Tag4.any,Tag4.any,Tag4.any,Tag4.any,Tag4.any,Tag4.any,Tag4.any,Tag4.any,Tag4.any,Tag4.any,Tag4.on 12,Tag4.on 13,Tag4.any] ⟨tagQ,tag4_good (Good.is _),tag4_good (Good.is _),tag4_good (Good.is _),tag4_good (Good.may _ _),tag4_good (Good.is _),tag4_good (Good.is _),tag4_good (Good.is _),tag4_good (Good.is _),tag4_good (Good.is _),tag4_good (Good.is _),tag4_good (Good.may _ _),tagN,tagH,tag4_two,trivial⟩
    (fun W W1 hS hE=>⟨(Ext.trans hS.1 hE),(hS.2.1.ext hE),(hS.2.2.1.ext hE),(hS.2.2.2.1.ext hE),(hS.2.2.2.2.1.ext hE),(hS.2.2.2.2.2.1.ext hE),(Nat.le_trans hS.2.2.2.2.2.2.1 (Ext.size hE)),(hS.2.2.2.2.2.2.2.1.ext hE),(Nat.le_trans hS.2.2.2.2.2.2.2.2.1 (Ext.size hE)),(Nat.le_trans hS.2.2.2.2.2.2.2.2.2 (Ext.size hE))⟩) (fun _ _ h _=>h) (begun_one hq (by omega) (by omega)) ⟨E0,hm,hv,hg,p2,p3,hsL,hq,hhs,Nat.le_refl _⟩ trivial (by kernel_rfl) (by kernel_rfl) (by kernel_rfl) (by kernel_rfl) (A:=?A1) ?hA1 ?howe1 ?hfin1
   case hA1=>
    intro vs
    simp only[putAll,Act.put,List.setIfInBounds_toArray,List.set_cons_zero,List.set_cons_succ,Nat.zero_add,Nat.reduceAdd]
    exact rfl
   case howe1=>
    clear E0 hm hv hg p2 p3 hsL hq hhs
    intro hf
    refine⟨owes5O 0 [] hf rfl rfl (by kernel_rfl) ?_,owes5E 1 [] hf rfl rfl rfl (by kernel_rfl) ?_,owes5E 2 [] hf rfl rfl rfl (by kernel_rfl) ?_,owes5E 3 [] hf rfl rfl rfl (by kernel_rfl) ?_,owes5E 4 [1,2,3] hf rfl rfl rfl (by kernel_rfl) ?_,owes5E 5 [] hf rfl rfl rfl (by kernel_rfl) ?_,owes5E 6 [5] hf rfl rfl rfl (by kernel_rfl) ?_,owes5E 7 [6] hf rfl rfl rfl (by kernel_rfl) ?_,owes5E 8 [4,7] hf rfl rfl rfl (by kernel_rfl) ?_,owes5E 9 [8] hf rfl rfl rfl (by kernel_rfl) ?_,owes5E 10 [8] hf rfl rfl rfl (by kernel_rfl) ?_,owes5E 11 [9,10] hf rfl rfl rfl (by kernel_rfl) ?_,owes5N 12 [11] hf rfl rfl (by kernel_rfl) ?_,owes5A 13 0 [] [0,12] hf rfl rfl rfl rfl (by kernel_rfl) rfl (by kernel_rfl) ?_,owes5E 14 [13] hf rfl rfl rfl (by kernel_rfl) ?_,trivial⟩
    all_goals intro vs W hS hp hx KO hKO
    all_goals simp only[Act.put,List.setIfInBounds_toArray,List.set_cons_zero,List.set_cons_succ]at hKO
    ·have eo:vs 14=vq:=hx.at 14 rfl (by kernel_rfl) rfl
     simp only[eo]at hKO
     go_simp
     exact hKO _ (fun g hg=>⟨rfl,hg⟩) ⟨rfl,hS.2.2.2.2.2.2.2.1⟩
    ·have fc0:=BxA.cell (hS.2.2.2.2.1) 0 (v:=.int .i64 lr) rfl
     have fc1:=BxA.cell (hS.2.2.2.2.1) 1 (v:=.int .i64 ep) rfl
     have fc2:=BxA.cell (hS.2.2.2.2.1) 2 (v:=.int .i64 d) rfl
     have fc3:=BxA.cell (hS.2.2.2.2.1) 3 (v:=.int .i64 (K:Int)) rfl
     have fc4:=BxA.cell (hS.2.2.2.2.1) 4 (v:=.int .i64 (cl:Int)) rfl
     have fc5:=BxA.cell (hS.2.2.2.2.1) 5 (v:=.int .i64 sh) rfl
     go_simp
     exact hKO _ W (Ext.refl W) rfl
    ·go_simp
     exact hKO _ W (Ext.refl W) rfl
    ·go_simp
     exact hKO _ W (Ext.refl W) rfl
    ·have e1:=isOf hp.1
     have e2:=isOf hp.2.1
     have e3:=isOf hp.2.2.1
     simp only[e1,e2,e3]at hKO
     go_simp
     cases g:mulO K x x
     ·have HN:Hid (fq k=none):=Lib.hid (by rw[HF.out];unfold squareO;rw[g];rfl)
      refine(Tryz.adaMulN (a:=x) (b:=x) lr ep d (cl:Int) sh K HK.out.1 HX.out HX.out g _).mono ?_
      rintro e W1 ⟨⟨c,hc,rfl⟩,hE⟩
      exact⟨rfl,Ext.trans hS.1 hE,.inr ⟨by rw[← HFQ.out,allB_no (i:=k) (by have:=HLT.out;have:=HLN.out;omega) HN.out];rfl,rfl⟩⟩
     ·have g2:mulO K x x=some z1:=by rw[Hz1.out,g];rfl
      refine(Tryz.adaMulS (a:=x) (b:=x) lr ep d (cl:Int) sh K HK.out.1 HX.out HX.out g2 _).mono ?_
      rintro e W1 ⟨rfl,hE⟩
      exact hKO _ W1 hE ⟨rfl,g2⟩
    ·go_simp
     exact hKO _ W (Ext.refl W) rfl
    ·have e5:=isOf hp.1
     simp only[e5]at hKO
     go_simp
     exact hKO _ W (Ext.refl W) rfl
    ·have e6:=isOf hp.1
     simp only[e6]at hKO
     have fc1:=BxA.cell (hS.2.2.2.2.1) 1 (v:=.int .i64 ep) rfl
     go_simp
     exact hKO _ W (Ext.refl W) rfl
    ·have e4:vs 4=.int .i64 z1:=(hp.1).1
     have Gz1:Hid (mulO K x x=some z1):=Lib.hid (hp.1).2
     have e7:=isOf hp.2.1
     simp only[e4,e7]at hKO
     go_simp
     refine(Tryz.fixAddV z1 ep _ (okZ_i64 Gz1.out).1 (okZ_i64 Gz1.out).2 HE.out.1 HE.out.2 HV.out HEE.out).mono ?_
     rintro e W1 ⟨rfl,hE⟩
     exact hKO _ W1 hE rfl
    ·have e8:=isOf hp.1
     simp only[e8]at hKO
     go_simp
     exact hKO _ W (Ext.refl W) rfl
    ·have e8:=isOf hp.1
     simp only[e8]at hKO
     go_simp
     exact hKO _ W (Ext.refl W) rfl
    ·have e9:=isOf hp.1
     have e10:=isOf hp.2.1
     simp only[e9,e10]at hKO
     go_simp
     cases g:heldO V E
     ·have HN:Hid (fq k=none):=Lib.hid (by rw[HF.out];unfold squareO;exact bind_no1 (by rw[← Hz1.out,← HZ.out];exact g))
      refine(Tryz.adaHeldN V E g _).mono ?_
      rintro e W1 ⟨⟨c,hc,rfl⟩,hE⟩
      exact⟨rfl,Ext.trans hS.1 hE,.inr ⟨by rw[← HFQ.out,allB_no (i:=k) (by have:=HLT.out;have:=HLN.out;omega) HN.out];rfl,rfl⟩⟩
     ·have g2:heldO V E=some z2:=by rw[Hz2.out,g];rfl
      refine(Tryz.adaHeldS V E g2 _).mono ?_
      rintro e W1 ⟨rfl,hE⟩
      exact hKO _ W1 hE ⟨rfl,g2⟩
    ·have e11:vs 11=.int .i64 z2:=(hp.1).1
     have Gz2:Hid (heldO V E=some z2):=Lib.hid (hp.1).2
     simp only[e11]at hKO
     have hE:=Ext.alloc1 W (.cells #[.int .i64 z2] 2)
     have hbx:=BxA.new W 2 #[.int .i64 z2]
     have hlt:=hbx.lt
     go_simp
     exact hKO _ _ hE (fun g hg=>by have hq:W.heap.size=g:=hg;exact⟨by omega,by omega⟩) ⟨_,rfl,hlt,hbx.cell 0 rfl,(by have h:=Gz2.out;rw[HZ.out]at h;exact okZ_i64 h)⟩
    ·have q0:=hp.1
     have q12:=hp.2.1
     obtain⟨ev,hr⟩:=q0
     replace ev:vs 0=vq:=ev
     have hsz:=hS.2.2.2.2.2.2.2.2.2
     refine step_append_g Tryz.underlying25 Tryz.infoI rfl _ _ rfl L hh (v:=vs 0) (u:=vs 12) rfl rfl hr q12 (by have:=sHC;have:=HLT.out;rw[outL_len];omega) (by omega) ?_
     intro v w1 hc hv hr2
     refine hKO v w1 (hc.imp_right ?_) hv hr2
     rintro⟨g,hg,hw,hr3⟩
     have hb:=hr.blk hg
     exact⟨g,hg,hw,⟨(Ext.wr hS.1 hw (by omega)),(hS.2.1.wr hw (by omega)),(hS.2.2.1.wr hw (by omega)),(hS.2.2.2.1.wr hw (by omega)),(hS.2.2.2.2.1.wr hw (by omega)),(hS.2.2.2.2.2.1.wr hw (by omega)),(Nat.le_trans hS.2.2.2.2.2.2.1 hw.apart.size),(ev ▸ hr3),(Nat.le_trans hS.2.2.2.2.2.2.2.2.1 hw.apart.size),(Nat.le_trans hS.2.2.2.2.2.2.2.2.2 hw.apart.size)⟩,fun h=>h,⟨ev,hr3⟩⟩
    ·have q13:=hp.1
     go_simp
     exact hKO _ W (Ext.refl W) rfl
   intro vs W1 hS hG hp
   clear lthsL lthhs szw1 E0 hm hv hg p2 p3 hsL hq hhs
   obtain⟨E0,hm,hv,hg,p2,p3,hsL,hq,hhs,sz1⟩:=hS
   obtain⟨h1_0,h1_1,h1_2,h1_3,h1_4,h1_5,h1_6,h1_7,h1_8,h1_9,h1_10,h1_11,h1_12,h1_13,h1_14,-⟩:=hp
   skip
   skip
   have hgr1_0:RowG L W1.heap.size W1 2 (vs 13) (outL k (valF fq)++[z2]):=h1_13
   have ev1_0:vs 14=vs 13:=h1_14
   simp only[ev1_0]
   replace h1_1:vs 1=.agg #[.int .i64 lr,.int .i64 ep,.int .i64 d,.int .i64 (K:Int),.int .i64 (cl:Int),.int .i64 sh]:=h1_1
   replace h1_2:vs 2=.int .i64 x:=h1_2
   replace h1_3:vs 3=.int .i64 x:=h1_3
   obtain⟨h1_4,Gz1⟩:=h1_4
   replace Gz1:=Lib.hid Gz1
   replace h1_4:vs 4=.int .i64 z1:=h1_4
   replace h1_5:vs 5=.pointer (some ⟨w.heap.size,0,none⟩):=h1_5
   replace h1_6:vs 6=.pointer (some ⟨w.heap.size,1,none⟩):=h1_6
   replace h1_7:vs 7=.int .i64 ep:=h1_7
   replace h1_8:vs 8=.tuple #[.int .i64 V,.int .i64 E]:=h1_8
   replace h1_9:vs 9=.int .i64 V:=h1_9
   replace h1_10:vs 10=.int .i64 E:=h1_10
   obtain⟨h1_11,Gz2⟩:=h1_11
   replace Gz2:=Lib.hid Gz2
   replace h1_11:vs 11=.int .i64 z2:=h1_11
   simp only[h1_1,h1_2,h1_3,h1_4,h1_5,h1_6,h1_7,h1_8,h1_9,h1_10,h1_11]
   clear h1_1 h1_2 h1_3 h1_4 h1_5 h1_6 h1_7 h1_8 h1_9 h1_10 h1_11 h1_0 h1_12 h1_13 h1_14
   clear sHL sHC
   have HFK:Hid (fq k=some z2):=Lib.hid (by rw[HF.out];unfold squareO;rw[Gz1.out,Option.bind_some,← HZ.out,Gz2.out])
   obtain⟨kp2_0,kp2_1,kp2_2,kp2_3,kp2_4,kp2_5⟩:=p2.c6
   obtain⟨kp3_0,kp3_1,kp3_2,kp3_3⟩:=p3.c4
   go_wp2
   clear kp2_0 kp2_1 kp2_2 kp2_3 kp2_4 kp2_5 kp3_0 kp3_1 kp3_2 kp3_3
   go_roundw
   case rel=>exact⟨k+1,_,rfl,by go_num,HLT.out,Lib.hid (grow_some' HA.out HFK.out),by rw[outL_snoc',valF_some HFK.out];exact hgr1_0,E0,hm,hv,hg,p2,p3,hsL⟩
   case measure=>simp[intOf];have:=HLT.out;omega
  ·have ek:ng=k:=by omega
   subst ek
   clear hlt hk
   obtain⟨aq,cq,rfl,hiq⟩:=hq.iw
   rw[outL_len]at hiq
   obtain⟨lq,hlq⟩:∃ l,l=outL ng (valF fq):=⟨_,rfl⟩
   rw[← hlq]at hiq hq
   have hzq:(outL ng (valF fq)).length=ng:=outL_len _ _
   have HLq:=Lib.hid hlq
   simp only[hzq]
   obtain⟨hhq,hhe⟩:∃ n,n=wr.heap.size:=⟨_,rfl⟩
   have hhsq:hhq≤wr.heap.size:=Nat.le_of_eq hhe
   rw[← hhe]at hiq
   clear hhe hq hlq hzq
   obtain⟨kp2_0,kp2_1,kp2_2,kp2_3,kp2_4,kp2_5⟩:=p2.c6
   obtain⟨kp3_0,kp3_1,kp3_2,kp3_3⟩:=p3.c4
   go_upto_region 8 with (fail)
   clear kp2_0 kp2_1 kp2_2 kp2_3 kp2_4 kp2_5 kp3_0 kp3_1 kp3_2 kp3_3
   have p10:=BxA.new wr 25 #[.slice none 0 0]
   have hE:=Ext.alloc1 wr (.cells #[.slice none 0 0] 25)
   have lt0:=Ext.size E0
   have ltp2:=p2.lt
   have ltp3:=p3.lt
   have lthsL:=hsL
   have lthhsq:=hhsq
   obtain⟨U10,hU10⟩:∃ U10,U10=wr.alloc (.cells #[.slice none 0 0] 25):=⟨_,rfl⟩
   rw[← hU10]at p10 hE ⊢
   clear hU10
   replace E0:=(Ext.trans E0 hE)
   replace hm:=(hm.ext hE)
   replace hv:=(hv.ext hE)
   replace hg:=(hg.ext hE)
   replace p2:=(p2.ext hE)
   replace p3:=(p3.ext hE)
   replace hsL:=(Nat.le_trans hsL (Ext.size hE))
   replace hiq:=(hiq.ext hE)
   replace hhsq:=(Nat.le_trans hhsq (Ext.size hE))
   clear hE
   obtain⟨g10,hg10⟩:∃ g,g=wr.heap.size:=⟨_,rfl⟩
   rw[← hg10]at p10 lt0 ltp2 ltp3 lthsL lthhsq ⊢
   clear hg10
   have HS10:=Lib.hid (And.intro lt0 (And.intro ltp2 (And.intro ltp3 (And.intro lthsL lthhsq))))
   clear lt0 ltp2 ltp3 lthsL lthhsq
   obtain⟨kp2_0,kp2_1,kp2_2,kp2_3,kp2_4,kp2_5⟩:=p2.c6
   obtain⟨kp3_0,kp3_1,kp3_2,kp3_3⟩:=p3.c4
   have kp10_0:=p10.cell 0 (v:=.slice none 0 0) rfl
   go_wp2_with fail
   clear kp2_0 kp2_1 kp2_2 kp2_3 kp2_4 kp2_5 kp3_0 kp3_1 kp3_2 kp3_3 kp10_0
   have sHC:=HC.out
   have hcf:=Tryz.adaFac lr ep d sh K ng cl sHC.1 (by omega) U10
   rw[HFA.out]at hcf
   refine hcf.mono ?_
   clear hcf
   rintro e V1 ⟨rfl,hE⟩
   clear sHC
   replace E0:=(Ext.trans E0 hE)
   replace hm:=(hm.ext hE)
   replace hv:=(hv.ext hE)
   replace hg:=(hg.ext hE)
   replace p2:=(p2.ext hE)
   replace p3:=(p3.ext hE)
   replace hsL:=(Nat.le_trans hsL (Ext.size hE))
   replace hiq:=(hiq.ext hE)
   replace hhsq:=(Nat.le_trans hhsq (Ext.size hE))
   replace p10:=(p10.ext hE)
   clear hE
   have hf:=HFA.out
   obtain⟨fp,hfp⟩:∃ f,f=pF K sh lv lq:=⟨_,rfl⟩
   have HFP:=Lib.hid hfp
   have HQL:Hid (lq=qL K ⟨lr,ep,d⟩ lg):=Lib.hid (by rw[HLq.out,HFQ.out];unfold qL;rw[HLN.out.2.2])
   have HQN:Hid (lq.length=ng):=Lib.hid (by rw[HQL.out,qL_len,HLN.out.2.2])
   have HMP:Hid (mL K sh cl lm (qL K ⟨lr,ep,d⟩ lg)=[]∧vL K sh cl lv (qL K ⟨lr,ep,d⟩ lg)=outL ng (valF fp)∧sL K sh cl lm lv (qL K ⟨lr,ep,d⟩ lg)=outL ng (valF fp)∧momB K sh cl lm lv (qL K ⟨lr,ep,d⟩ lg)=allB ng fp):=Lib.hid (by rw[← HQL.out,hfp];have h:=mom_places (K:=K) (sh:=sh) (cl:=cl) (lm:=lm) (lv:=lv) (q:=lq) (by rw[HQN.out];exact hf);rw[HQN.out]at h;exact h)
   have HB1:Hid (allB lg.length (sqF K ⟨lr,ep,d⟩ lg)=true):=Lib.hid (by rw[← HFQ.out,HLN.out.2.2];exact allB_iff.2 HA.out)
   clear hfp HA
   obtain⟨kp2_0,kp2_1,kp2_2,kp2_3,kp2_4,kp2_5⟩:=p2.c6
   obtain⟨kp3_0,kp3_1,kp3_2,kp3_3⟩:=p3.c4
   have kp10_0:=p10.cell 0 (v:=.slice none 0 0) rfl
   go_wp2_with fail
   clear kp2_0 kp2_1 kp2_2 kp2_3 kp2_4 kp2_5 kp3_0 kp3_1 kp3_2 kp3_3 kp10_0
   obtain⟨L2,hL2⟩:∃ L,L=V1.heap.size:=⟨_,rfl⟩
   have hsL2:L2≤V1.heap.size:=Nat.le_of_eq hL2
   have lthsL:=hsL
   have lthhsq:=hhsq
   have ltp2:=p2.lt
   have ltp3:=p3.lt
   have ltp10:=p10.lt
   rw[← hL2]at ltp2 ltp3 lthsL lthhsq ltp10
   have HL2:=Lib.hid (And.intro ltp2 (And.intro ltp3 (And.intro lthsL (And.intro lthhsq ltp10))))
   clear hL2 ltp2 ltp3 lthsL lthhsq ltp10
   go_loopw [11,52] (fun v i wr=>∃ (k:Nat) (vr:Value),vr=v∧i=.int .i64 (k:Int)∧k≤ng∧Hid (∀ j,j < k→fp j≠none)∧RowG L2 wr.heap.size wr 2 vr (outL k (valF fp))∧Ext w wr∧Iw 0 w.heap.size wr am 0 cm (lm)∧Iw 0 w.heap.size wr av ng cv (lv)∧Iw 0 w.heap.size wr ag ng cg (lg)∧BxA wr w.heap.size 54 #[.int .i64 lr,.int .i64 ep,.int .i64 d,.int .i64 (K:Int),.int .i64 (cl:Int),.int .i64 sh]∧BxA wr (w.heap.size+1) 27 #[.slice aw nw cw,.slice am 0 cm,.slice av ng cv,.slice ag ng cg]∧L≤wr.heap.size∧Iw L hhq wr aq ng cq (lq)∧hhq≤wr.heap.size∧BxA wr g10 25 #[.slice none 0 0]∧L2≤wr.heap.size) (fun _ i _=>ng - (intOf i).toNat)
   case atStart=>exact⟨0,_,rfl,rfl,Nat.zero_le _,Lib.hid (fun j hj=>absurd hj (by omega)),RowG.nil _ _ _ _,E0,hm,hv,hg,p2,p3,hsL,hiq,hhsq,p10,hsL2⟩
   case round=>
    clear E0 hm hv hg p2 p3 hsL hiq hhsq p10 hsL2
    obtain⟨k,vr,rfl,rfl,hk,HA,hq,E0,hm,hv,hg,p2,p3,hsL,hiq,hhsq,p10,hsL2⟩:=hrel
    by_cases hlt:k < ng
    ·have hltI:(k:Int) < (ng:Int):=by omega
     have hk0:(0:Int)≤(k:Int):=by omega
     have hk63:(k:Int) < 9223372036854775807:=by have:=HC.out;omega
     obtain⟨bv,ov,ea,-,-⟩:=hv.some (by omega)
     subst ea
     obtain⟨bq,oq,ea,-,-⟩:=hiq.some (by omega)
     subst ea
     have kc:=hv.cell hlt
     have HX:=Lib.hid (hv.i64 hlt)
     have HY:=Lib.hid (hiq.i64 hlt)
     obtain⟨x,hx⟩:∃ x,x=atL lv k:=⟨_,rfl⟩
     have HXX:=Lib.hid hx
     rw[← hx]at kc HX
     have HLT:=Lib.hid hlt
     have HF:Hid (fp k=blendO K sh x (atL lq k)):=Lib.hid (by rw[HFP.out,HXX.out];rfl)
     clear hx
     obtain⟨z2,Hz2⟩:∃ u_,u_=(blendO K sh x (atL lq k)).getD 0:=⟨_,rfl⟩
     replace Hz2:=Lib.hid Hz2
     obtain⟨hh,hhe⟩:∃ n,n=wr.heap.size:=⟨_,rfl⟩
     have hhs:hh≤wr.heap.size:=Nat.le_of_eq hhe
     rw[← hhe]at hq
     clear hhe hlt hk
     obtain⟨kp2_0,kp2_1,kp2_2,kp2_3,kp2_4,kp2_5⟩:=p2.c6
     obtain⟨kp3_0,kp3_1,kp3_2,kp3_3⟩:=p3.c4
     have kp10_0:=p10.cell 0 (v:=.slice none 0 0) rfl
     go_upto_region 12 with (fail)
     clear kp2_0 kp2_1 kp2_2 kp2_3 kp2_4 kp2_5 kp3_0 kp3_1 kp3_2 kp3_3 kp10_0
     clear kc
     have hlt:=HLT.out
     have sHL:=HL.out
     have sHC:=HC.out
     have sHS10:=HS10.out
     have sHL2:=HL2.out
     have ltp2:=p2.lt
     have ltp3:=p3.lt
     have ltp10:=p10.lt
     have lthsL:=hsL
     have lthhsq:=hhsq
     have lthsL2:=hsL2
     have lthhs:=hhs
     have szw2:=Ext.size E0
     refine region_go5 [.one fun v W=>v=vr∧RowG L2 hh W 2 v (outL k (valF fp)),
       .one fun v _=>v=.agg #[.int .i64 lr,.int .i64 ep,.int .i64 d,.int .i64 (K:Int),.int .i64 (cl:Int),.int .i64 sh],
       .one fun v _=>v=.int .i64 x,
       .one fun v _=>v=.slice (some ⟨bq,oq,none⟩) ng cq,
       .one fun v _=>v=.int .i64 (k:Int),
       .one fun v _=>v=.pointer (some ⟨bq,oq+k,none⟩),
       .one fun v _=>v=.int .i64 (atL lq k),
       .one fun v _=>v=.int .i64 z2∧blendO K sh x (atL lq k)=some z2,
       .one fun v W=>NewG W v z2,
       .one fun v W=>RowG L2 W.heap.size W 2 v (outL k (valF fp)++[z2]),
       .two 9 fun p v _=>v=p]
      (fun W=>Ext w W∧Iw 0 w.heap.size W am 0 cm (lm)∧Iw 0 w.heap.size W (some ⟨bv,ov,none⟩) ng cv (lv)∧Iw 0 w.heap.size W ag ng cg (lg)∧BxA W w.heap.size 54 #[.int .i64 lr,.int .i64 ep,.int .i64 d,.int .i64 (K:Int),.int .i64 (cl:Int),.int .i64 sh]∧BxA W (w.heap.size+1) 27 #[.slice aw nw cw,.slice am 0 cm,.slice (some ⟨bv,ov,none⟩) ng cv,.slice ag ng cg]∧L≤W.heap.size∧Iw L hhq W (some ⟨bq,oq,none⟩) ng cq (lq)∧hhq≤W.heap.size∧BxA W g10 25 #[.slice none 0 0]∧L2≤W.heap.size∧RowG L2 hh W 2 vr (outL k (valF fp))∧hh≤W.heap.size∧wr.heap.size≤W.heap.size) (fun _=>True) L2 (Ione vr) 9999 [(0,1),(9,1),(8,3)] [Tag4.on 0,Tag4.any,Tag4.any,Tag4.any,Tag4.any,Tag4.any,Tag4.any,Tag4.any,Tag4.on 8,Tag4.on 9,Tag4.any] ⟨tagQ,tag4_good (Good.is _),tag4_good (Good.is _),tag4_good (Good.is _),tag4_good (Good.is _),tag4_good (Good.is _),tag4_good (Good.is _),tag4_good (Good.may _ _),tagN,tagH,tag4_two,trivial⟩
      (fun W W1 hS hE=>⟨(Ext.trans hS.1 hE),(hS.2.1.ext hE),(hS.2.2.1.ext hE),(hS.2.2.2.1.ext hE),(hS.2.2.2.2.1.ext hE),(hS.2.2.2.2.2.1.ext hE),(Nat.le_trans hS.2.2.2.2.2.2.1 (Ext.size hE)),(hS.2.2.2.2.2.2.2.1.ext hE),(Nat.le_trans hS.2.2.2.2.2.2.2.2.1 (Ext.size hE)),(hS.2.2.2.2.2.2.2.2.2.1.ext hE),(Nat.le_trans hS.2.2.2.2.2.2.2.2.2.2.1 (Ext.size hE)),(hS.2.2.2.2.2.2.2.2.2.2.2.1.ext hE),(Nat.le_trans hS.2.2.2.2.2.2.2.2.2.2.2.2.1 (Ext.size hE)),(Nat.le_trans hS.2.2.2.2.2.2.2.2.2.2.2.2.2 (Ext.size hE))⟩) (fun _ _ h _=>h) (begun_one hq (by omega) (by omega)) ⟨E0,hm,hv,hg,p2,p3,hsL,hiq,hhsq,p10,hsL2,hq,hhs,Nat.le_refl _⟩ trivial (by kernel_rfl) (by kernel_rfl) (by kernel_rfl) (by kernel_rfl) (A:=?A2) ?hA2 ?howe2 ?hfin2
     case hA2=>
      intro vs
      simp only[putAll,Act.put,List.setIfInBounds_toArray,List.set_cons_zero,List.set_cons_succ,Nat.zero_add,Nat.reduceAdd]
      exact rfl
     case howe2=>
      clear E0 hm hv hg p2 p3 hsL hiq hhsq p10 hsL2 hq hhs
      intro hf
      refine⟨owes5O 0 [] hf rfl rfl (by kernel_rfl) ?_,owes5E 1 [] hf rfl rfl rfl (by kernel_rfl) ?_,owes5E 2 [] hf rfl rfl rfl (by kernel_rfl) ?_,owes5E 3 [] hf rfl rfl rfl (by kernel_rfl) ?_,owes5E 4 [] hf rfl rfl rfl (by kernel_rfl) ?_,owes5E 5 [3,4] hf rfl rfl rfl (by kernel_rfl) ?_,owes5E 6 [5] hf rfl rfl rfl (by kernel_rfl) ?_,owes5E 7 [1,2,6] hf rfl rfl rfl (by kernel_rfl) ?_,owes5N 8 [7] hf rfl rfl (by kernel_rfl) ?_,owes5A 9 0 [] [0,8] hf rfl rfl rfl rfl (by kernel_rfl) rfl (by kernel_rfl) ?_,owes5E 10 [9] hf rfl rfl rfl (by kernel_rfl) ?_,trivial⟩
      all_goals intro vs W hS hp hx KO hKO
      all_goals simp only[Act.put,List.setIfInBounds_toArray,List.set_cons_zero,List.set_cons_succ]at hKO
      ·have eo:vs 10=vr:=hx.at 10 rfl (by kernel_rfl) rfl
       simp only[eo]at hKO
       go_simp
       exact hKO _ (fun g hg=>⟨rfl,hg⟩) ⟨rfl,hS.2.2.2.2.2.2.2.2.2.2.2.1⟩
      ·have fc0:=BxA.cell (hS.2.2.2.2.1) 0 (v:=.int .i64 lr) rfl
       have fc1:=BxA.cell (hS.2.2.2.2.1) 1 (v:=.int .i64 ep) rfl
       have fc2:=BxA.cell (hS.2.2.2.2.1) 2 (v:=.int .i64 d) rfl
       have fc3:=BxA.cell (hS.2.2.2.2.1) 3 (v:=.int .i64 (K:Int)) rfl
       have fc4:=BxA.cell (hS.2.2.2.2.1) 4 (v:=.int .i64 (cl:Int)) rfl
       have fc5:=BxA.cell (hS.2.2.2.2.1) 5 (v:=.int .i64 sh) rfl
       go_simp
       exact hKO _ W (Ext.refl W) rfl
      ·go_simp
       exact hKO _ W (Ext.refl W) rfl
      ·go_simp
       exact hKO _ W (Ext.refl W) rfl
      ·go_simp
       exact hKO _ W (Ext.refl W) rfl
      ·have e3:=isOf hp.1
       have e4:=isOf hp.2.1
       simp only[e3,e4]at hKO
       go_simp
       exact hKO _ W (Ext.refl W) rfl
      ·have e5:=isOf hp.1
       simp only[e5]at hKO
       have fc:=Iw.cell (hS.2.2.2.2.2.2.2.1) (i:=k) (by omega)
       go_simp
       exact hKO _ W (Ext.refl W) rfl
      ·have e1:=isOf hp.1
       have e2:=isOf hp.2.1
       have e6:=isOf hp.2.2.1
       simp only[e1,e2,e6]at hKO
       go_simp
       cases g:blendO K sh x (atL lq k)
       ·have HN:Hid (fp k=none):=Lib.hid (HF.out.trans g)
        refine(Tryz.adaBlendN (old:=x) (q:=atL lq k) lr ep d (cl:Int) sh K HK.out.1 HK.out.2.1 HK.out.2.2 HX.out HY.out g _).mono ?_
        rintro e W1 ⟨⟨c,hc,rfl⟩,hE⟩
        exact⟨rfl,Ext.trans hS.1 hE,.inr ⟨by rw[HB1.out,HMP.out.2.2.2,allB_no HLT.out HN.out];rfl,rfl⟩⟩
       ·have g2:blendO K sh x (atL lq k)=some z2:=by rw[Hz2.out,g];rfl
        refine(Tryz.adaBlendS (old:=x) (q:=atL lq k) lr ep d (cl:Int) sh K HK.out.1 HK.out.2.1 HK.out.2.2 HX.out HY.out g2 _).mono ?_
        rintro e W1 ⟨rfl,hE⟩
        exact hKO _ W1 hE ⟨rfl,g2⟩
      ·have e7:vs 7=.int .i64 z2:=(hp.1).1
       have Gz2:Hid (blendO K sh x (atL lq k)=some z2):=Lib.hid (hp.1).2
       simp only[e7]at hKO
       have hE:=Ext.alloc1 W (.cells #[.int .i64 z2] 2)
       have hbx:=BxA.new W 2 #[.int .i64 z2]
       have hlt:=hbx.lt
       go_simp
       exact hKO _ _ hE (fun g hg=>by have hq:W.heap.size=g:=hg;exact⟨by omega,by omega⟩) ⟨_,rfl,hlt,hbx.cell 0 rfl,(blendO_i64 Gz2.out)⟩
      ·have q0:=hp.1
       have q8:=hp.2.1
       obtain⟨ev,hr⟩:=q0
       replace ev:vs 0=vr:=ev
       have hsz:=hS.2.2.2.2.2.2.2.2.2.2.2.2.2
       refine step_append_g Tryz.underlying25 Tryz.infoI rfl _ _ rfl L2 hh (v:=vs 0) (u:=vs 8) rfl rfl hr q8 (by have:=sHC;have:=HLT.out;rw[outL_len];omega) (by omega) ?_
       intro v w1 hc hv hr2
       refine hKO v w1 (hc.imp_right ?_) hv hr2
       rintro⟨g,hg,hw,hr3⟩
       have hb:=hr.blk hg
       exact⟨g,hg,hw,⟨(Ext.wr hS.1 hw (by omega)),(hS.2.1.wr hw (by omega)),(hS.2.2.1.wr hw (by omega)),(hS.2.2.2.1.wr hw (by omega)),(hS.2.2.2.2.1.wr hw (by omega)),(hS.2.2.2.2.2.1.wr hw (by omega)),(Nat.le_trans hS.2.2.2.2.2.2.1 hw.apart.size),(hS.2.2.2.2.2.2.2.1.wr hw (by omega)),(Nat.le_trans hS.2.2.2.2.2.2.2.2.1 hw.apart.size),(hS.2.2.2.2.2.2.2.2.2.1.wr hw (by omega)),(Nat.le_trans hS.2.2.2.2.2.2.2.2.2.2.1 hw.apart.size),(ev ▸ hr3),(Nat.le_trans hS.2.2.2.2.2.2.2.2.2.2.2.2.1 hw.apart.size),(Nat.le_trans hS.2.2.2.2.2.2.2.2.2.2.2.2.2 hw.apart.size)⟩,fun h=>h,⟨ev,hr3⟩⟩
      ·have q9:=hp.1
       go_simp
       exact hKO _ W (Ext.refl W) rfl
     intro vs W2 hS hG hp
     clear lthsL lthhsq lthsL2 lthhs szw2 E0 hm hv hg p2 p3 hsL hiq hhsq p10 hsL2 hq hhs
     obtain⟨E0,hm,hv,hg,p2,p3,hsL,hiq,hhsq,p10,hsL2,hq,hhs,sz2⟩:=hS
     obtain⟨h2_0,h2_1,h2_2,h2_3,h2_4,h2_5,h2_6,h2_7,h2_8,h2_9,h2_10,-⟩:=hp
     skip
     skip
     have hgr2_0:RowG L2 W2.heap.size W2 2 (vs 9) (outL k (valF fp)++[z2]):=h2_9
     have ev2_0:vs 10=vs 9:=h2_10
     simp only[ev2_0]
     replace h2_1:vs 1=.agg #[.int .i64 lr,.int .i64 ep,.int .i64 d,.int .i64 (K:Int),.int .i64 (cl:Int),.int .i64 sh]:=h2_1
     replace h2_2:vs 2=.int .i64 x:=h2_2
     replace h2_3:vs 3=.slice (some ⟨bq,oq,none⟩) ng cq:=h2_3
     replace h2_4:vs 4=.int .i64 (k:Int):=h2_4
     replace h2_5:vs 5=.pointer (some ⟨bq,oq+k,none⟩):=h2_5
     replace h2_6:vs 6=.int .i64 (atL lq k):=h2_6
     obtain⟨h2_7,Gz2⟩:=h2_7
     replace Gz2:=Lib.hid Gz2
     replace h2_7:vs 7=.int .i64 z2:=h2_7
     simp only[h2_1,h2_2,h2_3,h2_4,h2_5,h2_6,h2_7]
     clear h2_1 h2_2 h2_3 h2_4 h2_5 h2_6 h2_7 h2_0 h2_8 h2_9 h2_10
     clear sHL sHC sHS10 sHL2
     clear hlt
     have HFK:Hid (fp k=some z2):=Lib.hid (by rw[HF.out,Gz2.out])
     obtain⟨kp2_0,kp2_1,kp2_2,kp2_3,kp2_4,kp2_5⟩:=p2.c6
     obtain⟨kp3_0,kp3_1,kp3_2,kp3_3⟩:=p3.c4
     have kp10_0:=p10.cell 0 (v:=.slice none 0 0) rfl
     go_wp2
     clear kp2_0 kp2_1 kp2_2 kp2_3 kp2_4 kp2_5 kp3_0 kp3_1 kp3_2 kp3_3 kp10_0
     go_roundw
     case rel=>exact⟨k+1,_,rfl,by go_num,HLT.out,Lib.hid (grow_some' HA.out HFK.out),by rw[outL_snoc',valF_some HFK.out];exact hgr2_0,E0,hm,hv,hg,p2,p3,hsL,hiq,hhsq,p10,hsL2⟩
     case measure=>simp[intOf];have:=HLT.out;omega
    ·have ek:ng=k:=by omega
     subst ek
     clear hlt hk
     obtain⟨ar,cr,rfl,hir⟩:=hq.iw
     rw[outL_len]at hir
     obtain⟨lr,hlr⟩:∃ l,l=outL ng (valF fp):=⟨_,rfl⟩
     rw[← hlr]at hir hq
     have hzr:(outL ng (valF fp)).length=ng:=outL_len _ _
     have HLr:=Lib.hid hlr
     simp only[hzr]
     obtain⟨hhr,hhe⟩:∃ n,n=wr.heap.size:=⟨_,rfl⟩
     have hhsr:hhr≤wr.heap.size:=Nat.le_of_eq hhe
     rw[← hhe]at hir
     clear hhe hq hlr hzr
     obtain⟨kp2_0,kp2_1,kp2_2,kp2_3,kp2_4,kp2_5⟩:=p2.c6
     obtain⟨kp3_0,kp3_1,kp3_2,kp3_3⟩:=p3.c4
     have kp10_0:=p10.cell 0 (v:=.slice none 0 0) rfl
     go_wp2
     have hB0:w.heap.size≤L2:=by have:=HL2.out;have:=HL.out;omega
     refine bodyPost_ret (v:=.tuple #[.slice none 0 0,.slice ar ng cr,.slice ar ng cr]) (by simp[results,Tryz.results43,go_sem]) rfl ⟨E0,.inl ⟨by rw[HB1.out,HMP.out.2.2.2,allB_iff.2 HA.out];rfl,none,0,0,ar,cr,ar,cr,rfl,by rw[HMP.out.1];exact Iw.nil _ _ _,by rw[HMP.out.2.1,← HLr.out];exact hir.mono hB0 hhsr,by rw[HMP.out.2.2.1,← HLr.out];exact hir.mono hB0 hhsr⟩⟩
end Go.Rt
